/- Merged: SX1, SX2, SX3, SX4, SX5, SX6, SX7, SX8, SX9, SX10, SX11, SX12, SX13, SX14, SX15, SX16, SX17, SX18, SX19, SX20, SX21. -/
import Derived.Test.YtbdkgpcdkalfdaaGreatNcJB
import Derived.Test.YtbdkgpcdkalfdaaGreatNcRBC
import Derived.Test.YtbdkgpcdkalfdaaGreatNcHA
import Derived.Test.YtbdkgpcdkalfdaaGreatNcRAA
import Derived.Test.YtbdkgpcdkalfdaaGreatNcPA
import Derived.Test.YtbdkgpcdkalfdaaGreatNcRWX
namespace Go.Nc
open Go.Proofs.Tryz
open Go.Proofs
def AddX:Except Int Curve -> Int × LObj -> Prop
 | .ok z,x=>x = (0,.box z.cells)
 | .error e,x=>x.1 = e/\e ≠ 0/\obCl [] x.2/\x.2.live = true
noncomputable def othS (n:Net) (d:List (List Int)) (i:Nat) (L:Int) (s:Curve) (j:Int):Except Int Curve:=if j = i then .ok s else bE n d L s j
noncomputable def cY (n:Net) (d:List (List Int)) (i:Nat) (L C:Int):Except Int Curve:=fh (othS n d i L) (ar 0) (jN n L C)
def v5 (n:Net) (d:List (List Int)) (i:Nat) (L:Int) (W:List Int) (R:Except Int Curve) (j:Nat) (x:Int × LObj):Prop :=
 obCl [] x.2/\x.2.live = true/\((x.1 = 0/\∃ z:Curve,x.2 = .box z.cells/\fh (othS n d i L) z (W.drop j) = R) \/ (x.1 ≠ 0/\R = .error x.1))
set_option maxHeartbeats 1000000 in
theorem yo (n:Net) (d:List (List Int)) (h:NetOk n) (hd:ShapeOk n d) (i j:Nat) (L:Int) (hj:j < n.flows.length) (hne:j ≠ i) (hk:0 <= bH L (n.flows.getD j default).route 0/\bH L (n.flows.getD j default).route 0 < (n.flows.getD j default).route.length) (s:Curve) :
  ∃ x:Int × LObj,AddX (bE n d L s j) x/\q0c 213 (othA j) (othI n d i L 0 (.box s.cells)) (.tup []) (othI n d i L x.1 x.2):=by
 have hfo:FlowOk n.lines (n.flows.getD j default):=h.flow _ (by simp [hj])
 have hne2:=hfo.ne
 have p1:=ng n j L hj ω
 obtain ⟨q,p2⟩:=ry n d h hd j (bH L (n.flows.getD j default).route 0).toNat hj ω
 have eb:fe n d L j = lv (n.flows.getD j default) (dd d (n.flows.getD j default) (bH L (n.flows.getD j default).route 0).toNat):=by unfold fe;rw [χ]
 rw [<- eb] at q p2
 rw [(ω:(((bH L (n.flows.getD j default).route 0).toNat:Nat):Int) = bH L (n.flows.getD j default).route 0)] at p2
 have hcl:=np n d i L 0 (o:=.box s.cells) rfl
 unfold bE
 rcases hb:fe n d L j with e | a
 ·rw [hb] at q p2
  have he:e = 5 \/ e = 3:=q
  refine ⟨(e,.box s.cells),⟨rfl,ω,rfl,rfl⟩,?_⟩
  have hco:=np n d i L e (o:=.box s.cells) rfl
  refine opG func213 ntmps213 results213 (fun w0 Im0 ρ0=>?_) (hcl:=⟨rfl,rfl,rfl,hcl,hco,rfl⟩)
  repeat' (first|refine' ak|(refine bu ⟨Ψ,rfl,rfl,rfl,rfl,rfl,rfl,trivial⟩)|(refine ab p1 ?_)|(refine ab p2 ?_))
  all_goals (exfalso;omega)
 ·rw [hb] at p2
  have p3:=Dz s a
  dsimp only
  rcases hs:sumX s a with e | z
  ·rw [hs] at p3
   have he:=co (wN (hs ▸ Aw s a))
   refine ⟨(e,.box [.nils,.int .i64 0,.int .i64 0]),⟨rfl,he,rfl,rfl⟩,?_⟩
   have hco:=np n d i L e (o:=.box [.nils,.int .i64 0,.int .i64 0]) rfl
   refine opG func213 ntmps213 results213 (fun w0 Im0 ρ0=>?_) (hcl:=⟨rfl,rfl,rfl,hcl,hco,rfl⟩)
   repeat' (first|refine' ak|(refine bu ⟨Ψ,rfl,rfl,rfl,rfl,rfl,rfl,trivial⟩)|(refine ab p1 ?_)|(refine ab p2 ?_)|(refine ab p3 ?_))
   all_goals (exfalso;omega)
  ·rw [hs] at p3
   refine ⟨(0,.box z.cells),rfl,?_⟩
   have hco:=np n d i L 0 (o:=.box z.cells) rfl
   refine opG func213 ntmps213 results213 (fun w0 Im0 ρ0=>?_) (hcl:=⟨rfl,rfl,rfl,hcl,hco,rfl⟩)
   repeat' (first|refine' ak|(refine bu ⟨Ψ,rfl,rfl,rfl,rfl,rfl,rfl,trivial⟩)|(refine ab p1 ?_)|(refine ab p2 ?_)|(refine ab p3 ?_))
   all_goals (exfalso;omega)
set_option maxHeartbeats 1000000 in
theorem yp (n:Net) (d:List (List Int)) (h:NetOk n) (hd:ShapeOk n d) (i k:Nat) (hi:i < n.flows.length) (hk:k < (n.flows.getD i default).route.length) :
  ∃ x,x = cY n d i ((n.flows.getD i default).route.getD k 0) (n.flows.getD i default).class_/\q0d 154 [n.av,bt d,.int .i64 i,.int .i64 k] (az x):=by
 have p0:=pE n d h hd i k hi hk
 have hfo:FlowOk n.lines (n.flows.getD i default):=h.flow _ (by simp [hi])
 have hfl:=h.flen
 have hm:=a8 (l:=(n.flows.getD i default).route) (i:=k) hk
 have h1:=hfo.lines _ hm
 have hr:∀ j:Nat,j < n.flows.length -> (n.flows.getD j default).route.length <= 1000:=fun j hj=>by
  have:=(h.flow (n.flows.getD j default) (by rw [ψ,β hj];exact List.getElem_mem _)).ne
  omega
 have p1:=io n ((n.flows.getD i default).route.getD k 0) (n.flows.getD i default).class_ ω hr
 have p2:=pC n ((n.flows.getD i default).route.getD k 0) ω hr
 obtain ⟨L,eL⟩:∃ L,L = (n.flows.getD i default).route.getD k 0:=⟨_,rfl⟩
 rw [<- eL] at p0 p1 p2 h1 ⊢
 obtain ⟨C,eC⟩:∃ C,C = (n.flows.getD i default).class_:=⟨_,rfl⟩
 rw [<- eC]
 obtain ⟨W,eW⟩:∃ W,W = jN n L C:=⟨_,rfl⟩
 obtain ⟨R,eR⟩:∃ R,R = cY n d i L C:=⟨_,rfl⟩
 have eR2:R = fh (othS n d i L) (ar 0) W:=by rw [eR,eW];rfl
 rw [<- eR]
 have hW:∀ j:Nat,j < W.length -> 0 <= W.getD j 0/\W.getD j 0 < n.flows.length/\0 <= bH L (n.flows.getD (W.getD j 0).toNat default).route 0:=fun j hj=>nq (L:=L) (c:=C) (by rw [<- eW];exact a8 hj)
 have hWl:W.length <= 1000:=by
  rw [eW,jN]
  split
  ·have:=bV n L n.flows.length;unfold dT;omega
  ·have h1:=fX n C (dT n L) (dT n L).length
   have h2:=bV n L n.flows.length
   unfold aD dT at *
   omega
 refine opE func154 ntmps154 results154 ?_ (hcl:=⟨rfl,rfl,by simp⟩) (hco:=fun x=>⟨aB x _,by simp,rfl⟩)
 repeat' (first|refine' ah|(refine ab p0 ?_)|(refine ab p1 ?_)|(refine ab p2 ?_))
 all_goals try first|omega|(simp only [χ] at *;omega)
 all_goals
  refine ⟨?_⟩
  refine ao [8,11,12,13] [4,5,6,8,10,11] [] [(51,ints W),(52,.int .i64 W.length),(53,.int .i64 0)] [(12,some (.box [.osl 29 1,.int .i64 1,.int .i64 0])),(29,some (.arr 1 1 (fun _=>[.int .i64 0]) 3))] ⟨⟨rfl,rfl⟩,?_,?_⟩ ?_
  ·skip
   all_goals ((refine' subP)<;>first|exact q0b rfl (bT rfl)|exact sq1)
  ·skip
   all_goals ((refine' subP)<;>first|exact Θ (congrArg ints (by rw [eW,jN,if_pos (by assumption)]))|exact Θ (congrArg ints (by rw [eW,jN,if_neg (by assumption),eC]))|exact Ξ (congrArg (fun l:List Int=>(l.length:Int)) (by rw [eW,jN,if_pos (by assumption)]))|exact Ξ (congrArg (fun l:List Int=>(l.length:Int)) (by rw [eW,jN,if_neg (by assumption),eC]))|exact sq1)
  conv=>whnf
  refine ay 29 rfl rfl (fun _ _=>rfl) ?_ ?_ ?_
  ·all_goals try refine' frzZ
  ·all_goals try refine' frzZ
  conv=>whnf
  refine (ag (ι:={p:Nat × Int × LObj // p.1 <= W.length/\v5 n d i L W R p.1 p.2}) [8,11,12,13,51,52] [4,5,6,8,10] [] ⟨(0,0,.box (ar 0).cells),π _,rfl,rfl,.inl ⟨rfl,ar 0,rfl,eR2.symm⟩⟩ (fun ⟨(j,_,_),_⟩=>W.length - j) (fun ⟨(j,_,_),_⟩=>[(53,.int .i64 j)]) (fun ⟨(_,e,o),_⟩=>[(11,some (.box [.int .i64 e])),(12,some o)]) ?_ ?_).good
  ·refine ⟨⟨rfl,rfl⟩,?_,?_⟩
   all_goals ((refine' subP)<;>first|exact ObLe.box (.cons (Γ rfl (bT rfl)) (.cons Ψ (.cons Ψ .nil)))|exact sq1)
  ·rintro ⟨⟨j,e,o⟩,hj,ho,hlive,hsum⟩
   conv=>whnf
   repeat (refine gvE ?_;conv=>whnf)
   dsimp only at hj ho hlive hsum
   refine aa (fun hb=>?_) (fun hb=>?_)<;>conv=>whnf
   ·have hlt:j < W.length:=ω
    obtain ⟨w1,w2,w3⟩:=hW j hlt
    have hdr:=cT (l:=W) (j:=j) hlt
    obtain ⟨q,eq⟩:=γ w1
    rw [eq] at w2 w3 hdr
    rw [χ] at w3
    by_cases hs:e ≠ 0 \/ q = i
    ·have p3:=xU n d i q L e o ho hlive hs
     have hn:v5 n d i L W R (j + 1) (e,o):=⟨ho,hlive,by
      rcases hsum with ⟨h0,z,z1,z2⟩ | h0
      ·refine .inl ⟨h0,z,z1,?_⟩
       rw [hdr] at z2
       unfold fh othS at z2
       rw [if_pos ω] at z2
       exact z2
      ·exact .inr h0⟩
     unfold othA at p3
     rw [<- eq] at p3
     repeat' (first|(exact aK [] ⟨(j + 1,e,o),κ,hn⟩)|refine' bM|(refine tq p3 ⟨rfl,rfl,rfl,rfl,rfl,rfl,trivial⟩ ⟨trivial,trivial,trivial,trivial,trivial,trivial,trivial⟩ ?_;conv=>whnf))
     all_goals try exact ariA
    ·have e0:e = 0:=ω
     subst e0
     rcases hsum with ⟨_,z,z1,z2⟩ | ⟨h0,_⟩
     rotate_left
     ·exact absurd rfl h0
     change o = LObj.box z.cells at z1
     subst z1
     obtain ⟨⟨e2,o2⟩,hx,p3⟩:=yo n d h hd i q L ω ω ⟨w3,by have:=gL (x:=L) (l:=(n.flows.getD q default).route) (Int.le_refl 0);omega⟩ z
     dsimp only at p3
     rw [hdr] at z2
     unfold fh othS at z2
     rw [if_neg ω] at z2
     have hn:v5 n d i L W R (j + 1) (e2,o2):=by
      rcases hst:bE n d L z q with e' | y
      ·rw [hst] at hx z2
       obtain ⟨rfl,x1,x2,x3⟩:=hx
       exact ⟨x2,x3,.inr ⟨x1,z2.symm⟩⟩
      ·rw [hst] at hx z2
       cases hx
       exact ⟨rfl,rfl,.inl ⟨rfl,y,rfl,z2⟩⟩
     have c1:obCl [] o2:=hn.1
     have c2:o2.live = true:=hn.2.1
     unfold othA at p3
     rw [<- eq] at p3
     repeat' (first|(exact aK [] ⟨(j + 1,e2,o2),κ,hn⟩)|refine' bM|(refine tq p3 ⟨rfl,rfl,rfl,rfl,rfl,rfl,trivial⟩ ⟨trivial,trivial,trivial,trivial,trivial,trivial,trivial⟩ ?_;conv=>whnf))
     all_goals try exact ariA
   ·have ej:j = W.length:=ω
    rcases hsum with ⟨e0,z,z1,z2⟩ | ⟨e0,hR⟩
    ·change o = LObj.box z.cells at z1
     change e = 0 at e0
     subst z1
     subst e0
     rw [ej,List.drop_length] at z2
     repeat' (first|refine' ah | fail)
     exact ae ⟨.ok z,rfl,z2⟩
    ·skip
     repeat' (first|(refine aq (fun hb=>?_) (fun hb=>absurd hb e0);conv=>whnf)|refine' ah | fail)
     exact ae ⟨.error e,rfl,hR.symm⟩
theorem wT (n:Net) (h:NetOk n) (i k:Nat) (hi:i < n.flows.length) (hk:k < (n.flows.getD i default).route.length):q0d 73 [n.av,.int .i64 i,.int .i64 k] (.bool false):=by
 have hfl:=h.flen
 refine opG func73 ntmps73 results73 fun w0 Im0 ρ0=>?_
 repeat' (first|refine' ak | fail)
 all_goals try simp only [χ] at *
 all_goals first|omega|exact Θ (by rw [decide_eq_false ω];rfl)|(exfalso;omega)|exact υ
theorem nP (n:Net) (d:List (List Int)) (h:NetOk n) (hw:NamesOk n) (hd:ShapeOk n d) (i k:Nat) (hi:i < n.flows.length) (hk:k < (n.flows.getD i default).route.length) :
  ∃ x,(x = cY n d i ((n.flows.getD i default).route.getD k 0) (n.flows.getD i default).class_/\∀ z,x = .ok z -> Gd z)/\q0d 164 [n.av,bt d,.int .i64 i,.int .i64 k] (az x):=by
 have hfl:=h.flen
 have hr:=i5 h
 have hfo0:FlowOk n.lines (n.flows.getD i default):=h.flow _ (by simp [hi])
 have h1:=hfo0.lines _ (a8 (l:=(n.flows.getD i default).route) (i:=k) hk)
 obtain ⟨_,rfl,p9⟩:=cq n d h hw hd
 have p8:=wT n h i k hi hk
 have p0:=pH
 obtain ⟨L,eL⟩:∃ L,L = (n.flows.getD i default).route.getD k 0:=⟨_,rfl⟩
 obtain ⟨C,eC⟩:∃ C,C = (n.flows.getD i default).class_:=⟨_,rfl⟩
 rw [<- eL] at h1 ⊢
 rw [<- eC]
 have p1:q0d 72 [n.av,.int .i64 ((n.flows.getD i default).route.getD k 0),.int .i64 (n.flows.getD i default).class_] (ints (aD n L C)):=by rw [eL,eC];exact gM n _ _ ω hr
 have p1':q0d 137 [n.av,.int .i64 ((n.flows.getD i default).route.getD k 0)] (ints (dT n L)):=by rw [eL];exact n3 n _ ω hr
 obtain ⟨W,eW⟩:∃ W,W = jN n L C:=⟨_,rfl⟩
 obtain ⟨R,eR⟩:∃ R,R = cY n d i L C:=⟨_,rfl⟩
 have eR2:fh (othS n d i L) (ar 0) W = R:=by rw [eR,eW];rfl
 rw [<- eR]
 have hW:∀ j:Nat,j < W.length -> 0 <= W.getD j 0/\W.getD j 0 < n.flows.length/\0 <= bH L (n.flows.getD (W.getD j 0).toNat default).route 0:=fun j hj=>nq (L:=L) (c:=C) (by rw [<- eW];exact a8 hj)
 have hWl:W.length <= 1000:=by
  rw [eW,jN]
  split
  ·have:=bV n L n.flows.length;unfold dT;omega
  ·have:=fk n L C;omega
 refine opE func164 ntmps164 results164 ?_ (hcl:=⟨rfl,rfl,by simp⟩) (hco:=fun x=>⟨aB x _,by simp,rfl⟩)
 repeat' (first|refine' ah|(refine ab p9 ?_)|(refine ab p8 ?_)|(refine ab p0 ?_)|(refine ab p1 ?_)|(refine ab (p1') ?_))
 all_goals try first|omega|(simp only [χ] at *;omega)
 all_goals
  refine ⟨?_⟩
  refine ao [1,2,4,8,11] [4,8,11] [] [(10,.int .i64 L),(12,ints W),(13,.int .i64 0)] [] ⟨⟨rfl,rfl⟩,?_,?_⟩ ?_
  ·skip
   all_goals exact sq1
  ·skip
   all_goals ((refine' subP)<;>first|exact Ξ eL.symm|exact Θ (congrArg ints (by rw [eW,jN,if_pos (by rw [eL];assumption)]))|exact Θ (congrArg ints (by rw [eW,jN,if_neg (by rw [eL];assumption)]))|exact sq1)
  conv=>whnf
  refine (ag (ι:={p:Nat × Curve // p.1 <= W.length/\Gd p.2/\fh (othS n d i L) p.2 (W.drop p.1) = R}) [1,2,4,8,10,11,12] [4,8] [] ⟨(0,ar 0),π _,bg ω,eR2⟩ (fun ⟨(j,_),_⟩=>W.length - j) (fun ⟨(j,_),_⟩=>[(13,.int .i64 j)]) (fun ⟨(_,s),_⟩=>[(11,some (.box s.cells))]) ?_ ?_).good
  ·exact ⟨⟨rfl,rfl⟩,sq1,sq1⟩
  ·rintro ⟨⟨j,s⟩,hj,sg,sR⟩
   conv=>whnf
   repeat (refine gvE ?_;conv=>whnf)
   dsimp only at hj sg sR
   refine aa (fun hb=>?_) (fun hb=>?_)<;>conv=>whnf
   ·have hlt:j < W.length:=ω
    obtain ⟨w1,w2,w3⟩:=hW j hlt
    have htk:=cT (l:=W) (j:=j) hlt
    rw [htk,jb] at sR
    obtain ⟨q,eq⟩:=γ w1
    have er:W.getD (j:Int).toNat 0 = W.getD j 0:=rfl
    rw [eq] at w2 w3 sR
    rw [χ] at w3
    have hq:q < n.flows.length:=ω
    by_cases hs:q = i
    ·have hst:othS n d i L s q = .ok s:=by unfold othS;rw [if_pos ω]
     rw [hst] at sR
     repeat' (first|(exact aK [] ⟨(j + 1,s),κ,sg,sR⟩)|(refine aa (fun hb=>?_) (fun hb=>absurd ω hb);conv=>whnf)|refine' ah | fail)
     all_goals try exact ariA
    ·have e1:othS n d i L s q = bE n d L s q:=by unfold othS;rw [if_neg ω]
     rw [e1] at sR
     have p2:=qW n q L hq ω (hr q hq)
     have hlt2:=gL (x:=L) (l:=(n.flows.getD q default).route) (Int.le_refl 0)
     have hfo:FlowOk n.lines (n.flows.getD q default):=h.flow _ (by simp [hq])
     obtain ⟨o,⟨ho,hov⟩,_⟩:=j1 n d h hw hd q (bH L (n.flows.getD q default).route 0).toNat hq ω
     have p3:=nO n d h hw hd q (bH L (n.flows.getD q default).route 0).toNat hq ω
     rw [ho] at hov
     have eB:fe n d L q = lv (n.flows.getD q default) (dd d (n.flows.getD q default) (bH L (n.flows.getD q default).route 0).toNat):=by unfold fe;rw [χ]
     have hlow:=fun e he=>co (fj h hd (L:=L) (s:=s) (j:=q) hq w3 (e:=e) he)
     rw [(ω:(((bH L (n.flows.getD q default).route 0).toNat:Nat):Int) = bH L (n.flows.getD q default).route 0),<- eB] at p3
     rw [<- eq] at p2 p3
     have hne:¬ W.getD j 0 = (i:Int):=ω
     rcases hx:fe n d L q with e | z
     ·have hst:bE n d L s q = .error e:=by unfold bE;rw [hx]
      have he:=hlow e hst
      rw [eq] at p3
      rw [hx,<- eq] at p3
      rw [hst] at sR
      repeat' (first|(refine aa (fun hb=>absurd hb hne) (fun hb=>?_);conv=>whnf)|(refine aq (fun hb=>?_) (fun hb=>absurd hb he);conv=>whnf)|refine' ah|(refine ab p2 ?_)|(refine ab p3 ?_))
      all_goals try first|omega|exact ae ⟨.error e,rfl,sR,nofun⟩
     ·have zg:Gd z:=wS hfo hov (by rw [<- eB];exact hx)
      obtain ⟨zw,zl,_⟩:=fA zg
      obtain ⟨sw,sl,_⟩:=fA sg
      obtain ⟨y,⟨_,hy⟩,p4⟩:=lh s z sw sl zw zl
      have hst:bE n d L s q = y:=by
       unfold bE
       rw [hx]
       dsimp only
       rw [AI sg zg,hy.eq sg zg]
      rw [eq] at p3
      rw [hx,<- eq] at p3
      rw [hst] at sR hlow
      rcases y with e | u
      ·have he:=hlow e rfl
       repeat' (first|(refine aa (fun hb=>absurd hb hne) (fun hb=>?_);conv=>whnf)|(refine aq (fun hb=>?_) (fun hb=>absurd hb he);conv=>whnf)|refine' ah|(refine ab p2 ?_)|(refine ab p3 ?_)|(refine ab p4 ?_))
       all_goals try first|omega|exact ae ⟨.error e,rfl,sR,nofun⟩
      ·have ug:=(hy.gd sg zg).1
       repeat' (first|(exact aK [] ⟨(j + 1,u),κ,ug,sR⟩)|(refine aa (fun hb=>absurd hb hne) (fun hb=>?_);conv=>whnf)|refine' ah|(refine ab p2 ?_)|(refine ab p3 ?_)|(refine ab p4 ?_))
       all_goals try exact ariA
   ·have ej:W.drop j = []:=List.drop_eq_nil_of_le ω
    rw [ej] at sR
    repeat' (first|refine' ah | fail)
    exact ae ⟨.ok s,rfl,sR,fun z e=>by cases e;exact sg⟩
def rS (D:Nat -> Int) (θ u:Nat):Int:=if u <= θ then 0 else max 0 (D u)
theorem Eo (D:Nat -> Int) (θ u:Nat):0 <= rS D θ u:=by unfold rS;split<;>omega
theorem v6 (D:Nat -> Int) (θ u:Nat):∃ w,u <= w/\∀ v,u <= v -> rS D θ w <= rS D θ v:=by
 have key:∀ (n w:Nat),u <= w -> (rS D θ w).toNat <= n -> ∃ w,u <= w/\∀ v,u <= v -> rS D θ w <= rS D θ v:=by
  intro n
  induction n with
  | zero=>exact fun w hw h=>⟨w,hw,fun v _=>by have:=Eo D θ v;omega⟩
  | succ n ih=>
   intro w hw h
   by_cases hx:∃ v,u <= v/\rS D θ v < rS D θ w
   ·obtain ⟨v,hv,hlt⟩:=hx
    have:=Eo D θ v
    exact ih v hv ω
   ·exact ⟨w,hw,fun v hv=>by
     by_cases h1:rS D θ v < rS D θ w
     ·exact absurd ⟨v,hv,h1⟩ hx
     ·omega⟩
 exact key _ u (ξ u) (ξ _)
noncomputable def shG (D:Nat -> Int) (θ u:Nat):Int:=rS D θ (Classical.choose (v6 D θ u))
theorem dO {D:Nat -> Int} {θ u v:Nat} (h:u <= v):shG D θ u <= rS D θ v:=(Classical.choose_spec (v6 D θ u)).2 v h
theorem gQ (D:Nat -> Int) (θ u:Nat):∃ w,u <= w/\shG D θ u = rS D θ w:=⟨_,(Classical.choose_spec (v6 D θ u)).1,rfl⟩
theorem kv (D:Nat -> Int) (θ u:Nat):0 <= shG D θ u:=Eo ..
theorem gR {D:Nat -> Int} {θ u v:Nat} (h:u <= v):shG D θ u <= shG D θ v:=by
 obtain ⟨w,hw,e⟩:=gQ D θ v
 rw [e]
 exact dO (Nat.le_trans h hw)
theorem rE {D:Nat -> Int} {θ u:Nat} (h:u <= θ):shG D θ u = 0:=by
 have h1:=dO (D:=D) (θ:=θ) (ξ u)
 have h2:=kv D θ u
 unfold rS at h1
 rw [if_pos h] at h1
 omega
theorem tN {D E:Nat -> Int} {θ:Nat} (h:∀ u,θ < u -> D u = E u) (u:Nat):shG D θ u = shG E θ u:=by
 have e:∀ v,rS D θ v = rS E θ v:=fun v=>by
  unfold rS
  split
  ·rfl
  ·rw [h v ω]
 obtain ⟨w,hw,e1⟩:=gQ D θ u
 obtain ⟨v,hv,e2⟩:=gQ E θ u
 have:=dO (D:=D) (θ:=θ) hv
 have:=dO (D:=E) (θ:=θ) hw
 rw [e] at *
 omega
theorem CJ {D:Nat -> Int} {θ:Nat} (h:∀ u,∃ w,u <= w/\D w <= 0) (u:Nat):shG D θ u = 0:=by
 obtain ⟨w,hw,h1⟩:=h u
 have h2:=dO (D:=D) (θ:=θ) hw
 have h3:=kv D θ u
 unfold rS at h2
 split at h2<;>omega
theorem rF {D:Nat -> Int} {θ F P:Nat} {δ:Int} (hF:θ < F) (hr:∀ u,F <= u -> D (u + P) = D u + δ) (h0:∀ u,F <= u -> 0 <= D u) (u:Nat) (hu:F <= u):shG D θ (u + P) = shG D θ u + δ:=by
 have e:∀ w,F <= w -> rS D θ w = D w:=fun w hw=>by
  have:=h0 w hw
  unfold rS
  rw [if_neg ω]
  omega
 obtain ⟨w,hw,e1⟩:=gQ D θ u
 obtain ⟨v,hv,e2⟩:=gQ D θ (u + P)
 have h1:=dO (D:=D) (θ:=θ) (ω:u + P <= w + P)
 have h2:=dO (D:=D) (θ:=θ) (ω:u <= v - P)
 have h3:=hr (v - P) ω
 rw [(ω:v - P + P = v)] at h3
 rw [e _ ω] at *
 rw [hr w ω] at h1
 omega
theorem tO {D:Nat -> Int} {F P:Nat} {δ:Int} (hP:1 <= P) (hr:∀ u,F <= u -> D (u + P) = D u + δ) (hδ:0 <= δ) (h0:∀ u,F <= u -> u < F + P -> 0 <= D u) (u:Nat) (hu:F <= u):0 <= D u:=by
 rcases ζ u (F + P) with h | h
 ·exact h0 u hu h
 ·have h1:=tO hP hr hδ h0 (u - P) ω
  have h2:=hr (u - P) ω
  rw [(ω:u - P + P = u)] at h2
  omega
termination_by u
theorem rG {D:Nat -> Int} {θ S P N u:Nat} {δ m:Int} (hP:1 <= P) (hr:∀ u,S <= u -> D (u + P) = D u + δ) (hδ:0 <= δ) (hθ:θ < u) (hN:S + P <= N) (huN:u + P <= N) (h1:∀ w,u <= w -> w < N -> m <= D w) (h2:∃ w,u <= w/\w < N/\D w = m):shG D θ u = max 0 m:=by
 have hall:∀ w,u <= w -> m <= D w:=by
  intro w
  induction w using Nat.strongRecOn with
  | ind w ih=>
   intro hw
   rcases ζ w N with h | h
   ·exact h1 w hw h
   ·have h3:=ih (w - P) ω ω
    have h4:=hr (w - P) ω
    rw [(ω:w - P + P = w)] at h4
    omega
 obtain ⟨w,w1,w2,w3⟩:=h2
 have h5:=dO (D:=D) (θ:=θ) w1
 obtain ⟨v,v1,v2⟩:=gQ D θ u
 have h6:=hall v v1
 unfold rS at h5 v2
 rw [if_neg ω] at h5 v2
 omega
theorem nQ {D:Nat -> Int} {θ:Nat} (h4:shG D θ 400 = 0) (hx:∃ u,0 < shG D θ u):qZ (shG D θ):=by
 intro s p i hr hsp _ _ _
 obtain ⟨u,hu⟩:=hx
 have z:∀ t,t <= 400 -> shG D θ t = 0:=fun t ht=>by
  have:=gR (D:=D) (θ:=θ) ht
  have:=kv D θ t
  omega
 have hi:=hr.2 s (ξ s)
 rw [z _ hsp,z s ω] at hi
 have h1:=aX hr.2 u s (ξ s)
 rw [z s ω,<- (ω:(0:Int) = i),Int.mul_zero] at h1
 have h2:=gR (D:=D) (θ:=θ) (show u <= s + u * p by have:=Nat.le_mul_of_pos_right u hr.1;omega)
 omega
theorem v7 {D:Nat -> Int} {θ S P:Nat} {δ:Int} (hP:1 <= P) (hS:θ < S) (hr:∀ u,S <= u -> D (u + P) = D u + δ) (hδ:0 < δ):∃ u,0 < shG D θ u:=by
 have lo:∀ n,∃ M:Int,∀ j,j < n -> M <= D (S + j):=by
  intro n
  induction n with
  | zero=>exact ⟨0,fun j h=>ω⟩
  | succ n ih=>
   obtain ⟨M,hM⟩:=ih
   refine ⟨min M (D (S + n)),fun j hj=>?_⟩
   rcases ζ j n with h | h
   ·have:=hM j h;omega
   ·obtain rfl:j = n:=ω
    omega
 obtain ⟨M,hM⟩:=lo P
 obtain ⟨K,eK⟩:∃ K:Nat,K = (1 - M).toNat:=⟨_,rfl⟩
 have h1:∀ u,S + K * P <= u -> 1 <= D u:=by
  intro u
  induction u using Nat.strongRecOn with
  | ind u ih=>
   intro hu
   rcases ζ u (S + K * P + P) with h | h
   ·have h2:=aX hr K (u - K * P) ω
    rw [(ω:u - K * P + K * P = u)] at h2
    have h3:=hM (u - K * P - S) ω
    rw [(ω:S + (u - K * P - S) = u - K * P)] at h3
    have h4:(K:Int) * 1 <= K * δ:=Int.mul_le_mul_of_nonneg_left ω ω
    omega
   ·have h2:=ih (u - P) ω ω
    have h3:=hr (u - P) ω
    rw [(ω:u - P + P = u)] at h3
    omega
 refine ⟨S + K * P,?_⟩
 obtain ⟨w,w1,w2⟩:=gQ D θ (S + K * P)
 have:=h1 w w1
 rw [w2]
 unfold rS
 rw [if_neg ω]
 omega
def gapX (b o:Curve) (θ:Nat):AV:=.agg [ints b.vals,.int .i64 b.per,.int .i64 b.inc,ints o.vals,.int .i64 o.per,.int .i64 o.inc,.int .i64 θ]
def gapD (b o:Curve) (θ:Nat) (u:Nat):Int:=b.at u - o.at ((u - θ:Nat):Int)
theorem rH {b o:Curve} (hb:WfC b) (fb:FinC b) (ho:WfC o) (fo:FinC o) (θ u:Nat) (hu:θ <= u) (hm:u <= 1100000):q0d 219 [gapX b o θ,.int .i64 u] (.int .i64 (gapD b o θ u)):=by
 have p1:=bO b hb u ω
 have p2:=bO o ho (u - θ) ω
 have b1:=bc hb fb u
 have b2:=bc ho fo (u - θ)
 have e:((u - θ:Nat):Int) = (u:Int) - θ:=ω
 unfold gapD
 rw [e] at p2 b2 ⊢
 have n1:¬ b.at u = 4611686018427387904:=ω
 have n2:¬ o.at ((u:Int) - θ) = 4611686018427387904:=ω
 refine opG func219 ntmps219 results219 fun w0 Im0 ρ0=>?_
 repeat' (first|(refine aa (fun hb=>absurd hb n2) (fun hb=>?_);conv=>whnf)|(refine aa (fun hb=>absurd hb n1) (fun hb=>?_);conv=>whnf)|refine' ak|(refine ab p1 ?_)|(refine ab p2 ?_))
 all_goals first|exact Ψ|exact ariA
def winL (D:Nat -> Int) (F:Nat):Nat -> Int
 | 0=>4611686018427387904
 | k + 1=>min (winL D F k) (D (F + k))
theorem iD {b o:Curve} (hb:WfC b) (fb:FinC b) (ho:WfC o) (fo:FinC o) (θ F N:Nat) (hF:θ <= F) (hm:F + N <= 1100000):∃ x:Int,x = winL (gapD b o θ) F N/\q0d 217 [gapX b o θ,.int .i64 F,.int .i64 N] (.int .i64 x):=by
 refine opE func217 ntmps217 results217 ?_
 repeat' (first|refine' ah | fail)
 all_goals try exact ariA
 refine ag (ι:={j:Nat // j <= N}) [1,2,3] [3] [] ⟨0,π _⟩ (fun ⟨j,_⟩=>N - j) (fun ⟨j,_⟩=>[(7,.int .i64 (winL (gapD b o θ) F j)),(8,.int .i64 ((F:Int) + j))]) (fun _=>[]) ?_ ?_
 ·exact ⟨⟨rfl,rfl⟩,sq1,sq1⟩
 ·rintro ⟨j,hj⟩
  conv=>whnf
  by_cases hjl:(F:Int) + j < F + N
  ·have p1:=rH hb fb ho fo θ (F + j) ω ω
   rw [(ω:((F + j:Nat):Int) = (F:Int) + j)] at p1
   repeat' (first|(exact aK [] ⟨j + 1,ω⟩)|(refine aa (fun hb=>?_) (fun hb=>absurd hjl hb);conv=>whnf)|refine' ah|(refine ab p1 ?_))
   all_goals try exact ariA
  ·obtain rfl:j = N:=ω
   repeat' (first|(refine aa (fun hb=>absurd hb hjl) (fun hb=>?_);conv=>whnf)|refine' ah | fail)
   all_goals try exact ariA
   exact ae ⟨_,rfl,rfl⟩
def shD (c d:Curve) (θ:Nat) (u:Nat):Int:=c.at u - d.at ((u - θ:Nat):Int)
def js (c d:Curve) (θ:Int) (x:Except Int Curve):Prop:=Gd c -> Gd d ->
 if 0 <= θ/\θ <= 1048576 then ∃ a b,CanQ (fun t:Nat=>c.at t) (.ok a)/\CanQ (fun t:Nat=>d.at t) (.ok b)/\if comP a b <= 120 then CanQ (shG (shD c d θ.toNat) θ.toNat) x else x = .error 3
 else x = .error 2
theorem nR (F:Nat -> Int) (N t:Nat) (ht:t < N):q0c 220 [.int .i64 t,.lptr 901 0] [(901,.box [.isl N 1 (fun i=>[.int .i64 (F i)])])] (.int .i64 (F t)) [(901,.box [.isl N 1 (fun i=>[.int .i64 (F i)])])]:=by
 refine opG func220 ntmps220 results220 (fun w0 Im0 ρ0=>?_) (hcl:=⟨rfl,rfl,rfl,bG rfl,bG rfl,rfl⟩)
 repeat' (first|refine' eE | fail)
 all_goals first|exact Ψ|rfl|exact ariA
def fN (D:Nat -> Int) (u M:Nat) (m:Int):Prop:=(∀ w,u <= w -> w < M -> m <= D w)/\∃ w,u <= w/\w < M/\D w = m
theorem mr {D:Nat -> Int} {F:Nat}:∀ n,1 <= n -> (∀ w,F <= w -> w < F + n -> D w <= 4611686018427387904) -> fN D F (F + n) (winL D F n)
 | 1,_,h=>by
  have:=h F (ξ F) ω
  have e:winL D F 1 = D F:=by show min 4611686018427387904 (D (F + 0)) = D F;rw [Nat.add_zero];omega
  rw [e]
  exact ⟨fun w h1 h2=>by obtain rfl:w = F:=ω;exact Int.le_refl _,F,ξ F,ω,rfl⟩
 | n + 2,_,h=>by
  obtain ⟨h1,w,h2,h3,h4⟩:=mr (n + 1) ω (fun w a b=>h w a ω)
  have e:winL D F (n + 2) = min (winL D F (n + 1)) (D (F + (n + 1))):=rfl
  refine ⟨fun v a b=>?_,?_⟩
  ·rcases ζ v (F + (n + 1)) with g | g
   ·have:=h1 v a g;omega
   ·obtain rfl:v = F + (n + 1):=ω
    omega
  ·by_cases g:winL D F (n + 1) <= D (F + (n + 1))
   ·exact ⟨w,h2,ω,ω⟩
   ·exact ⟨F + (n + 1),ω,ω,ω⟩
theorem fN.step {D:Nat -> Int} {u M:Nat} {m:Int} (h:fN D (u + 1) M m) (hu:u < M):fN D u M (min m (D u)):=by
 obtain ⟨h1,w,h2,h3,h4⟩:=h
 refine ⟨fun v a b=>?_,?_⟩
 ·rcases ζ u v with g | g
  ·have:=h1 v g b;omega
  ·obtain rfl:v = u:=ω
   omega
 ·by_cases g:m <= D u
  ·exact ⟨w,ω,h3,ω⟩
  ·exact ⟨u,ξ u,hu,ω⟩
def oE (G:Nat -> Int) (u:Nat):Nat -> List AV:=fun i=>[.int .i64 (bif Nat.blt u i then G i else 0)]
theorem ly {G:Nat -> Int} {i u:Nat} {v:Int} (hu:1 <= u) (h:v = G u):(bif Nat.beq i u then [AV.int .i64 v] else oE G u i) = oE G (u - 1) i:=by
 subst h
 unfold oE
 by_cases e:i = u
 ·subst e
  rw [Nat.beq_refl,Nat.blt_eq.mpr (ω:i - 1 < i)]
  rfl
 ·have e1:Nat.beq i u = false:=Bool.eq_false_iff.2 fun h=>e (Nat.eq_of_beq_eq_true h)
  rw [e1]
  by_cases g:u < i
  ·rw [Nat.blt_eq.mpr g,Nat.blt_eq.mpr (ω:u - 1 < i)];rfl
  ·have e2:Nat.blt u i = false:=Bool.eq_false_iff.2 fun h=>g (Nat.blt_eq.mp h)
   have e3:Nat.blt (u - 1) i = false:=Bool.eq_false_iff.2 fun h=>by have:=Nat.blt_eq.mp h;omega
   rw [e2,e3];rfl
theorem l4 {G:Nat -> Int} {u:Nat} (h:∀ i,i <= u -> G i = 0) (i:Nat):oE G u i = [.int .i64 (G i)]:=by
 unfold oE
 by_cases g:u < i
 ·rw [Nat.blt_eq.mpr g];rfl
 ·have e2:Nat.blt u i = false:=Bool.eq_false_iff.2 fun h=>g (Nat.blt_eq.mp h)
  rw [e2,h i ω];rfl
theorem l5 {G:Nat -> Int} {u i:Nat} (h:i <= u):[AV.int .i64 0] = oE G u i:=by
 unfold oE
 have e2:Nat.blt u i = false:=Bool.eq_false_iff.2 fun g=>by have:=Nat.blt_eq.mp g;omega
 rw [e2];rfl
structure ShF (D:Nat -> Int) (k F l:Nat) (δ:Int):Prop where
 l1:1 <= l
 kF:k < F
 rep:∀ u,F <= u -> D (u + l) = D u + δ
theorem ShF.flat {D:Nat -> Int} {k F l:Nat} {δ w:Int} (h:ShF D k F l δ) (hm:fN D F (F + l) w) (hf:δ < 0 \/ (δ = 0/\w <= 0)):CanQ (shG D k) (.ok (ar 0)):=by
 obtain ⟨_,v,v1,_,v3⟩:=hm
 refine can0 (CJ fun u=>?_)
 obtain ⟨m,em⟩:∃ m:Nat,m = u + (D v).toNat:=⟨_,rfl⟩
 refine ⟨v + m * l,by have:=Nat.le_mul_of_pos_right m h.l1;omega,?_⟩
 rw [aX h.rep m v v1]
 rcases hf with hf | ⟨hf,hw⟩
 ·have h4:(m:Int) * δ <= m * (-1):=Int.mul_le_mul_of_nonneg_left ω ω
  omega
 ·rw [hf,Int.mul_zero];omega
theorem ShF.pos {D:Nat -> Int} {k F l:Nat} {δ w:Int} (h:ShF D k F l δ) (hm:fN D F (F + l) w) (hf:0 < δ \/ (δ = 0/\0 < w)):∃ u,0 < shG D k u:=by
 rcases hf with hf | ⟨hf,hw⟩
 ·exact v7 h.l1 h.kF h.rep hf
 ·refine ⟨F,?_⟩
  rw [rG h.l1 h.rep ω h.kF (ξ _) (ξ _) hm.1 hm.2]
  omega
theorem ShF.lim {D:Nat -> Int} {k F l:Nat} {δ w:Int} (h:ShF D k F l δ) (hm:fN D F (F + l) w) (hf:0 < δ \/ (δ = 0/\0 < w)) (hk:400 <= k):CanQ (shG D k) (.error 3):=⟨rfl,nQ (rE hk) (h.pos hm hf)⟩
theorem ShF.neg {D:Nat -> Int} {k F l fr:Nat} {δ w:Int} (h:ShF D k F l δ) (hf:0 < δ) (hfr:400 <= fr) (hm:fN D fr (fr + l) w) (hw:w < 0):CanQ (shG D k) (.error 3):=by
 obtain ⟨_,v,v1,_,v3⟩:=hm
 refine ⟨rfl,nQ ?_ (v7 h.l1 h.kF h.rep hf)⟩
 have h2:=dO (D:=D) (θ:=k) (ω:400 <= v)
 have h3:=kv D k 400
 unfold rS at h2
 split at h2<;>omega
set_option maxHeartbeats 4000000 in
theorem gm (c d:Curve) (hc:Gd c) (hd:Gd d) (θ:Int):∃ x,js c d θ x/\q0d 156 [c.av,d.av,.int .i64 θ] (az x):=by
 obtain ⟨y,⟨hy,_,hN⟩,p1⟩:=b9 c
 obtain ⟨z,⟨hz,_,hM⟩,p2⟩:=b9 d
 obtain ⟨a,rfl⟩:=bD hc (hN hc)
 obtain ⟨b,rfl⟩:=bD hd (hM hd)
 obtain ⟨cv,aw,af⟩:=hy
 obtain ⟨dv,bw,bf⟩:=hz
 obtain ⟨fa,ea⟩:=af hc.2
 obtain ⟨fb,eb⟩:=bf hd.2
 by_cases hθ:0 <= θ/\θ <= 1048576
 rotate_left
 ·refine ⟨.error 2,fun _ _=>by rw [if_neg hθ],?_⟩
  refine opG func156 ntmps156 results156 fun w0 Im0 ρ0=>?_
  repeat' (first|refine' ak|(refine ab p1 ?_)|(refine ab p2 ?_))
  all_goals first|exact Ψ|(exfalso;omega)|omega
 obtain ⟨k,rfl⟩:=γ hθ.1
 have ap:=aw.per
 have bp:=bw.per
 have al:=aw.len
 have bl:=bw.len
 obtain ⟨l,hl,p3⟩:=gj a.per.toNat b.per.toNat ω ω
 rw [(ω:((a.per.toNat:Nat):Int) = a.per),(ω:((b.per.toNat:Nat):Int) = b.per)] at p3
 by_cases h:(l:Int) <= 120
 rotate_left
 ·refine ⟨.error 3,fun _ _=>by rw [if_pos hθ];exact ⟨a,b,hN hc,hM hd,by rw [if_neg (by have e:=hl.eq;unfold comP;omega)]⟩,?_⟩
  refine opG func156 ntmps156 results156 fun w0 Im0 ρ0=>?_
  repeat' (first|refine' ak|(refine ab p1 ?_)|(refine ab p2 ?_)|(refine ab p3 ?_))
  all_goals first|exact Ψ|(exfalso;omega)|omega
 obtain ⟨m1,hm1⟩:=hl.left
 obtain ⟨m2,hm2⟩:=hl.right
 have p4:=aQ a aw
 have p5:=aQ b bw
 have p6:=bh a ω
 have p7:=bh b ω
 rw [jQ fa al.1] at p6
 rw [jQ fb bl.1] at p7
 have p8:=jP a aw l m1 ω (by rw [hm1,Nat.mul_comm])
 have p9:=jP b bw l m2 ω (by rw [hm2,Nat.mul_comm])
 have hl1:=hl.pos
 have i1:=aw.inc
 have i2:=bw.inc
 have g3:0 <= (m1:Int) * a.inc:=Int.mul_nonneg ω i1.1
 have g4:0 <= (m2:Int) * b.inc:=Int.mul_nonneg ω i2.1
 have g5:m1 <= l:=by rw [hm1];exact Nat.le_mul_of_pos_left _ ω
 have g6:m2 <= l:=by rw [hm2];exact Nat.le_mul_of_pos_left _ ω
 have g7:(m1:Int) * a.inc <= 120 * 1073741824:=Int.mul_le_mul ω i1.2 i1.1 ω
 have g8:(m2:Int) * b.inc <= 120 * 1073741824:=Int.mul_le_mul ω i2.2 i2.1 ω
 obtain ⟨δ,eδ⟩:∃ δ,δ = (m1:Int) * a.inc - (m2:Int) * b.inc:=⟨_,rfl⟩
 obtain ⟨F,eF⟩:∃ F:Nat,max (max ((a.vals.length - a.per.toNat:Nat):Int) (((b.vals.length - b.per.toNat:Nat):Int) + k)) ((k:Int) + 1) = (F:Int):=⟨max (max (a.vals.length - a.per.toNat) (b.vals.length - b.per.toNat + k)) (k + 1),ω⟩
 obtain ⟨D,eD⟩:∃ D,D = gapD a b k:=⟨_,rfl⟩
 obtain ⟨w0,ew0,p10⟩:=iD aw fa bw fb k F l ω ω
 have hF:k < F/\F <= 1048976/\a.vals.length <= F + a.per.toNat/\b.vals.length + k <= F + b.per.toNat:=ω
 have hSh:ShF D k F l δ:=⟨hl1,hF.1,fun u hu=>by
  rw [eD]
  unfold gapD
  rw [dm aw fa (by rw [hm1,Nat.mul_comm]) ω,(ω:u + l - k = (u - k) + l),dm bw fb (by rw [hm2,Nat.mul_comm]) ω]
  omega⟩
 have hbd:∀ w:Nat,w <= 1100000 -> -4503599627370496 <= D w/\D w <= 4503599627370496:=fun w hw=>by
  have b1:=bc aw fa w
  have b2:=bc bw fb (w - k)
  rw [eD]
  unfold gapD
  omega
 have hmin:∀ f:Nat,f <= 1099000 -> fN D f (f + l) (winL (gapD a b k) f l):=fun f hf=>by rw [<- eD];exact mr l hl1 fun w h1 h2=>by have:=hbd w ω;omega
 have mw0:=hmin F ω
 rw [<- ew0] at mw0
 have mk:∀ x,CanQ (shG D k) x -> js c d k x:=fun x hx _ _=>by
  rw [if_pos hθ]
  refine ⟨a,b,hN hc,hM hd,?_⟩
  rw [if_pos (by have e:=hl.eq;unfold comP;omega),χ]
  exact hx.of fun t=>tN (fun u hu=>by rw [eD];unfold gapD shD;rw [ea,eb]) t
 have p10':=p10
 rw [<- eF] at p10'
 have p0:=pI
 by_cases hk4:400 <= k
 ·refine opE func156 ntmps156 results156 ?_ (hcl:=⟨rfl,rfl,by simp⟩) (hco:=fun x=>⟨aB x _,by simp,rfl⟩)
  repeat' (first|refine' ah|(refine ab p1 ?_)|(refine ab p2 ?_)|(refine ab p3 ?_)|(refine ab p4 ?_)|(refine ab p5 ?_)|(refine ab p6 ?_)|(refine ab p7 ?_)|(refine ab p8 ?_)|(refine ab p9 ?_)|(refine ab (p10') ?_)|(refine ab p0 ?_))
  all_goals try first|exact ariA|(exfalso;omega)|exact ae ⟨.ok (ar 0),rfl,mk _ (hSh.flat mw0 ω)⟩|exact ae ⟨.error 3,rfl,mk _ (hSh.lim mw0 ω hk4)⟩
 ·obtain ⟨w1,ew1,p11⟩:=iD aw fa bw fb k 400 l ω ω
  obtain ⟨w2,ew2,p12⟩:=iD aw fa bw fb k (400 + l) l ω ω
  obtain ⟨w3,ew3,p13⟩:=iD aw fa bw fb k (F + l) l ω ω
  obtain ⟨w4,ew4,p14⟩:=iD aw fa bw fb k (F + 1) l ω ω
  have mw1:=hmin 400 ω
  have mw2:=hmin (400 + l) ω
  have mw3:=hmin (F + l) ω
  have mw4:=hmin (F + 1) ω
  rw [<- ew1] at mw1
  rw [<- ew2] at mw2
  rw [<- ew3] at mw3
  rw [<- ew4] at mw4
  rw [(ω:((400 + l:Nat):Int) = 400 + (l:Int))] at p12
  rw [(ω:((F + l:Nat):Int) = (F:Int) + (l:Int)),<- eF] at p13
  rw [(ω:((F + 1:Nat):Int) = (F:Int) + 1),<- eF] at p14
  refine opE func156 ntmps156 results156 ?_ (hcl:=⟨rfl,rfl,by simp⟩) (hco:=fun x=>⟨aB x _,by simp,rfl⟩)
  repeat' (first|refine' ah|(refine ab p1 ?_)|(refine ab p2 ?_)|(refine ab p3 ?_)|(refine ab p4 ?_)|(refine ab p5 ?_)|(refine ab p6 ?_)|(refine ab p7 ?_)|(refine ab p8 ?_)|(refine ab p9 ?_)|(refine ab (p10') ?_)|(refine ab p0 ?_)|(refine ab p11 ?_)|(refine ab p12 ?_)|(refine ab p13 ?_)|(refine ab p14 ?_))
  all_goals try first|exact ariA|(exfalso;omega)|exact ae ⟨.ok (ar 0),rfl,mk _ (hSh.flat mw0 ω)⟩|exact ae ⟨.error 3,rfl,mk _ (hSh.neg ω (ξ _) mw1 ω)⟩|exact ae ⟨.error 3,rfl,mk _ (hSh.neg ω ω mw0 ω)⟩
  ·skip
   obtain ⟨fr,efr⟩:∃ fr:Nat,fr = F:=⟨_,rfl⟩
   obtain ⟨pr,epr⟩:∃ pr:Nat,pr = 1:=⟨_,rfl⟩
   obtain ⟨inc,einc⟩:∃ inc:Int,inc = 0:=⟨_,rfl⟩
   obtain ⟨mm,emm⟩:∃ mm,mm = w4:=⟨_,rfl⟩
   have hmm:fN D (fr + pr) (fr + pr + l) mm:=by rw [efr,epr,emm];exact mw4
   have hd0:0 <= δ:=ω
   have hfr:F <= fr/\fr <= 1000/\1 <= pr/\pr <= 120/\0 <= inc/\inc <= 1099511627776:=ω
   have hper:∀ t,fr <= t -> shG D k (t + pr) = shG D k t + inc:=fun t ht=>by
    have h1:=rF hF.1 hSh.rep (tO hl1 hSh.rep hd0 fun u h1 h2=>by have:=mw0.1 u h1 h2;omega) t ω
    have h2:=gR (D:=D) (θ:=k) (ω:t <= t + pr)
    have h3:=gR (D:=D) (θ:=k) (ω:t + pr <= t + l)
    omega
   obtain ⟨N,eN⟩:∃ N:Nat,N = fr + pr:=⟨_,rfl⟩
   obtain ⟨G,eG⟩:∃ G,G = shG D k:=⟨_,rfl⟩
   have hG0:∀ i,i <= k -> G i = 0:=fun i hi=>by rw [eG];exact rE hi
   refine ag (ι:={p:Nat × Int // k <= p.1/\p.1 < N/\fN D (p.1 + 1) (N + l) p.2}) [2,6,12] [6,12] [] ⟨(N - 1,mm),κ,κ,by dsimp only;rw [(ω:N - 1 + 1 = N),eN];exact hmm⟩ (fun ⟨(u,_),_⟩=>u - k) (fun ⟨(u,m),_⟩=>[(14,.int .i64 fr),(16,.int .i64 pr),(17,.int .i64 inc),(18,.lptr 18 0),(19,.int .i64 m),(20,.int .i64 u)]) (fun ⟨(u,_),_⟩=>[(18,some (.box [.osl 122 N])),(122,some (.arr N 1 (oE G u) 3))]) ?_ ?_
   ·refine ⟨⟨rfl,rfl⟩,?_,?_⟩
    all_goals ((refine' subP)<;>first|exact q0b ω fun i hi=>l5 ω|exact Θ (congrArg (AV.osl 122) ω)|exact ObLe.box (.cons (Θ (congrArg (AV.osl 122) ω)) .nil)|exact Ξ ω|exact sq1)
   ·rintro ⟨⟨u,m⟩,hu,huN,hum⟩
    conv=>whnf
    dsimp only at hu huN hum
    by_cases hul:(k:Int) < u
    ·have p15:=rH aw fa bw fb k u hu ω
     have hst:=hum.step ω
     rw [eD] at hst
     have hGu:max 0 (min m (gapD a b k u)) = G u:=by
      rw [eG,eD]
      exact (rG hl1 (by rw [<- eD];exact hSh.rep) hd0 ω ω ω hst.1 hst.2).symm
     repeat' (first|(refine' aS [] ⟨(u - 1,min m (gapD a b k u)),κ,κ,by dsimp only;rw [(ω:u - 1 + 1 = u),eD];exact hst⟩<;>first|exact q0b rfl fun i hi=>ly ω hGu|exact sq1)|(refine aa (fun hb=>?_) (fun hb=>absurd hul hb);conv=>whnf)|refine' ah|(refine ab p15 ?_))
     all_goals try exact ariA
    ·obtain rfl:k = u:=ω
     have hGb:∀ t,t <= 1100000 -> 0 <= G t/\G t <= 4503599627370496:=fun t ht=>by
      have h1:=kv D k t
      have h2:=dO (D:=D) (θ:=k) (ξ t)
      have h3:=hbd t ht
      unfold rS at h2
      rw [eG]
      split at h2<;>omega
     obtain ⟨x,⟨_,_,hX⟩,p16⟩:=d8 220 (.box [.isl N 1 (fun i=>[.int .i64 (G i)])]) rfl rfl G fr pr inc ω ω (fun t ht=>.inl (by have:=hGb t ω;omega)) (fun t ht=>nR G N t ω)
     have hx:CanQ (shG D k) x:=by
      rw [<- eG]
      refine hX (fun t ht=>?_) (fun t ht=>by rw [eG];exact hper t ht)
      have:=hGb t ω
      unfold inf
      omega
     repeat (refine gvE ?_;conv=>whnf)
     refine aa (fun hb=>absurd hb hul) (fun hb=>?_)
     conv=>whnf
     refine ao [6,14,16,17,18] [6] [] [] [(18,some (.box [.osl 122 N])),(122,some (.arr N 1 (fun i=>[.int .i64 (G i)]) 3))] ⟨⟨rfl,rfl⟩,?_,?_⟩ ?_
     ·skip
      all_goals ((refine' subP)<;>first|exact q0b rfl fun i hi=>l4 hG0 i|exact sq1)
     ·skip
      all_goals exact sq1
     ·conv=>whnf
      refine ay 122 rfl rfl (fun _ _=>rfl) ?_ ?_ ?_
      ·all_goals try refine' frzZ
      ·all_goals try refine' frzZ
      ·conv=>whnf
       rcases x with e | cc
       ·skip
        repeat' (first|(refine ao [6,14,16,17] [6] [(901,18)] [(18,.lptr 901 0)] [(901,some (.box [.isl N 1 (fun i=>[.int .i64 (G i)])]))] ⟨⟨rfl,rfl⟩,sq1,sq1⟩ ?_;conv=>whnf)|refine' ah|(refine ba p16 ?_))
        exact ae ⟨.error e,rfl,mk _ hx⟩
       ·skip
        repeat' (first|(refine ao [6,14,16,17] [6] [(901,18)] [(18,.lptr 901 0)] [(901,some (.box [.isl N 1 (fun i=>[.int .i64 (G i)])]))] ⟨⟨rfl,rfl⟩,sq1,sq1⟩ ?_;conv=>whnf)|refine' ah|(refine ba p16 ?_))
        exact ae ⟨.ok cc,rfl,mk _ hx⟩
  ·skip
   obtain ⟨fr,efr⟩:∃ fr:Nat,fr = 400:=⟨_,rfl⟩
   obtain ⟨pr,epr⟩:∃ pr:Nat,pr = l:=⟨_,rfl⟩
   obtain ⟨inc,einc⟩:∃ inc:Int,inc = δ:=⟨_,rfl⟩
   obtain ⟨mm,emm⟩:∃ mm,mm = w2:=⟨_,rfl⟩
   have hmm:fN D (fr + pr) (fr + pr + l) mm:=by rw [efr,epr,emm];exact mw2
   have hd0:0 <= δ:=ω
   have hfr:F <= fr/\fr <= 1000/\1 <= pr/\pr <= 120/\0 <= inc/\inc <= 1099511627776:=ω
   have hper:∀ t,fr <= t -> shG D k (t + pr) = shG D k t + inc:=fun t ht=>by
    rw [epr,einc]
    have hr4:∀ u,400 <= u -> D (u + l) = D u + δ:=fun u hu=>hSh.rep u ω
    exact rF (ω:k < 400) hr4 (tO hl1 hr4 hd0 fun u h1 h2=>by have:=mw1.1 u h1 h2;omega) t ω
   obtain ⟨N,eN⟩:∃ N:Nat,N = fr + pr:=⟨_,rfl⟩
   obtain ⟨G,eG⟩:∃ G,G = shG D k:=⟨_,rfl⟩
   have hG0:∀ i,i <= k -> G i = 0:=fun i hi=>by rw [eG];exact rE hi
   refine ag (ι:={p:Nat × Int // k <= p.1/\p.1 < N/\fN D (p.1 + 1) (N + l) p.2}) [2,6,12] [6,12] [] ⟨(N - 1,mm),κ,κ,by dsimp only;rw [(ω:N - 1 + 1 = N),eN];exact hmm⟩ (fun ⟨(u,_),_⟩=>u - k) (fun ⟨(u,m),_⟩=>[(14,.int .i64 fr),(16,.int .i64 pr),(17,.int .i64 inc),(18,.lptr 18 0),(19,.int .i64 m),(20,.int .i64 u)]) (fun ⟨(u,_),_⟩=>[(18,some (.box [.osl 122 N])),(122,some (.arr N 1 (oE G u) 3))]) ?_ ?_
   ·refine ⟨⟨rfl,rfl⟩,?_,?_⟩
    all_goals ((refine' subP)<;>first|exact q0b ω fun i hi=>l5 ω|exact Θ (congrArg (AV.osl 122) ω)|exact ObLe.box (.cons (Θ (congrArg (AV.osl 122) ω)) .nil)|exact Ξ ω|exact sq1)
   ·rintro ⟨⟨u,m⟩,hu,huN,hum⟩
    conv=>whnf
    dsimp only at hu huN hum
    by_cases hul:(k:Int) < u
    ·have p15:=rH aw fa bw fb k u hu ω
     have hst:=hum.step ω
     rw [eD] at hst
     have hGu:max 0 (min m (gapD a b k u)) = G u:=by
      rw [eG,eD]
      exact (rG hl1 (by rw [<- eD];exact hSh.rep) hd0 ω ω ω hst.1 hst.2).symm
     repeat' (first|(refine' aS [] ⟨(u - 1,min m (gapD a b k u)),κ,κ,by dsimp only;rw [(ω:u - 1 + 1 = u),eD];exact hst⟩<;>first|exact q0b rfl fun i hi=>ly ω hGu|exact sq1)|(refine aa (fun hb=>?_) (fun hb=>absurd hul hb);conv=>whnf)|refine' ah|(refine ab p15 ?_))
     all_goals try exact ariA
    ·obtain rfl:k = u:=ω
     have hGb:∀ t,t <= 1100000 -> 0 <= G t/\G t <= 4503599627370496:=fun t ht=>by
      have h1:=kv D k t
      have h2:=dO (D:=D) (θ:=k) (ξ t)
      have h3:=hbd t ht
      unfold rS at h2
      rw [eG]
      split at h2<;>omega
     obtain ⟨x,⟨_,_,hX⟩,p16⟩:=d8 220 (.box [.isl N 1 (fun i=>[.int .i64 (G i)])]) rfl rfl G fr pr inc ω ω (fun t ht=>.inl (by have:=hGb t ω;omega)) (fun t ht=>nR G N t ω)
     have hx:CanQ (shG D k) x:=by
      rw [<- eG]
      refine hX (fun t ht=>?_) (fun t ht=>by rw [eG];exact hper t ht)
      have:=hGb t ω
      unfold inf
      omega
     repeat (refine gvE ?_;conv=>whnf)
     refine aa (fun hb=>absurd hb hul) (fun hb=>?_)
     conv=>whnf
     refine ao [6,14,16,17,18] [6] [] [] [(18,some (.box [.osl 122 N])),(122,some (.arr N 1 (fun i=>[.int .i64 (G i)]) 3))] ⟨⟨rfl,rfl⟩,?_,?_⟩ ?_
     ·skip
      all_goals ((refine' subP)<;>first|exact q0b rfl fun i hi=>l4 hG0 i|exact sq1)
     ·skip
      all_goals exact sq1
     ·conv=>whnf
      refine ay 122 rfl rfl (fun _ _=>rfl) ?_ ?_ ?_
      ·all_goals try refine' frzZ
      ·all_goals try refine' frzZ
      ·conv=>whnf
       rcases x with e | cc
       ·skip
        repeat' (first|(refine ao [6,14,16,17] [6] [(901,18)] [(18,.lptr 901 0)] [(901,some (.box [.isl N 1 (fun i=>[.int .i64 (G i)])]))] ⟨⟨rfl,rfl⟩,sq1,sq1⟩ ?_;conv=>whnf)|refine' ah|(refine ba p16 ?_))
        exact ae ⟨.error e,rfl,mk _ hx⟩
       ·skip
        repeat' (first|(refine ao [6,14,16,17] [6] [(901,18)] [(18,.lptr 901 0)] [(901,some (.box [.isl N 1 (fun i=>[.int .i64 (G i)])]))] ⟨⟨rfl,rfl⟩,sq1,sq1⟩ ?_;conv=>whnf)|refine' ah|(refine ba p16 ?_))
        exact ae ⟨.ok cc,rfl,mk _ hx⟩
  ·skip
   obtain ⟨fr,efr⟩:∃ fr:Nat,fr = F:=⟨_,rfl⟩
   obtain ⟨pr,epr⟩:∃ pr:Nat,pr = l:=⟨_,rfl⟩
   obtain ⟨inc,einc⟩:∃ inc:Int,inc = δ:=⟨_,rfl⟩
   obtain ⟨mm,emm⟩:∃ mm,mm = w3:=⟨_,rfl⟩
   have hmm:fN D (fr + pr) (fr + pr + l) mm:=by rw [efr,epr,emm];exact mw3
   have hd0:0 <= δ:=ω
   have hfr:F <= fr/\fr <= 1000/\1 <= pr/\pr <= 120/\0 <= inc/\inc <= 1099511627776:=ω
   have hper:∀ t,fr <= t -> shG D k (t + pr) = shG D k t + inc:=fun t ht=>by
    rw [epr,einc]
    exact rF hF.1 hSh.rep (tO hl1 hSh.rep hd0 fun u h1 h2=>by have:=mw0.1 u h1 h2;omega) t ω
   obtain ⟨N,eN⟩:∃ N:Nat,N = fr + pr:=⟨_,rfl⟩
   obtain ⟨G,eG⟩:∃ G,G = shG D k:=⟨_,rfl⟩
   have hG0:∀ i,i <= k -> G i = 0:=fun i hi=>by rw [eG];exact rE hi
   refine ag (ι:={p:Nat × Int // k <= p.1/\p.1 < N/\fN D (p.1 + 1) (N + l) p.2}) [2,6,12] [6,12] [] ⟨(N - 1,mm),κ,κ,by dsimp only;rw [(ω:N - 1 + 1 = N),eN];exact hmm⟩ (fun ⟨(u,_),_⟩=>u - k) (fun ⟨(u,m),_⟩=>[(14,.int .i64 fr),(16,.int .i64 pr),(17,.int .i64 inc),(18,.lptr 18 0),(19,.int .i64 m),(20,.int .i64 u)]) (fun ⟨(u,_),_⟩=>[(18,some (.box [.osl 122 N])),(122,some (.arr N 1 (oE G u) 3))]) ?_ ?_
   ·refine ⟨⟨rfl,rfl⟩,?_,?_⟩
    all_goals ((refine' subP)<;>first|exact q0b ω fun i hi=>l5 ω|exact Θ (congrArg (AV.osl 122) ω)|exact ObLe.box (.cons (Θ (congrArg (AV.osl 122) ω)) .nil)|exact Ξ ω|exact sq1)
   ·rintro ⟨⟨u,m⟩,hu,huN,hum⟩
    conv=>whnf
    dsimp only at hu huN hum
    by_cases hul:(k:Int) < u
    ·have p15:=rH aw fa bw fb k u hu ω
     have hst:=hum.step ω
     rw [eD] at hst
     have hGu:max 0 (min m (gapD a b k u)) = G u:=by
      rw [eG,eD]
      exact (rG hl1 (by rw [<- eD];exact hSh.rep) hd0 ω ω ω hst.1 hst.2).symm
     repeat' (first|(refine' aS [] ⟨(u - 1,min m (gapD a b k u)),κ,κ,by dsimp only;rw [(ω:u - 1 + 1 = u),eD];exact hst⟩<;>first|exact q0b rfl fun i hi=>ly ω hGu|exact sq1)|(refine aa (fun hb=>?_) (fun hb=>absurd hul hb);conv=>whnf)|refine' ah|(refine ab p15 ?_))
     all_goals try exact ariA
    ·obtain rfl:k = u:=ω
     have hGb:∀ t,t <= 1100000 -> 0 <= G t/\G t <= 4503599627370496:=fun t ht=>by
      have h1:=kv D k t
      have h2:=dO (D:=D) (θ:=k) (ξ t)
      have h3:=hbd t ht
      unfold rS at h2
      rw [eG]
      split at h2<;>omega
     obtain ⟨x,⟨_,_,hX⟩,p16⟩:=d8 220 (.box [.isl N 1 (fun i=>[.int .i64 (G i)])]) rfl rfl G fr pr inc ω ω (fun t ht=>.inl (by have:=hGb t ω;omega)) (fun t ht=>nR G N t ω)
     have hx:CanQ (shG D k) x:=by
      rw [<- eG]
      refine hX (fun t ht=>?_) (fun t ht=>by rw [eG];exact hper t ht)
      have:=hGb t ω
      unfold inf
      omega
     repeat (refine gvE ?_;conv=>whnf)
     refine aa (fun hb=>absurd hb hul) (fun hb=>?_)
     conv=>whnf
     refine ao [6,14,16,17,18] [6] [] [] [(18,some (.box [.osl 122 N])),(122,some (.arr N 1 (fun i=>[.int .i64 (G i)]) 3))] ⟨⟨rfl,rfl⟩,?_,?_⟩ ?_
     ·skip
      all_goals ((refine' subP)<;>first|exact q0b rfl fun i hi=>l4 hG0 i|exact sq1)
     ·skip
      all_goals exact sq1
     ·conv=>whnf
      refine ay 122 rfl rfl (fun _ _=>rfl) ?_ ?_ ?_
      ·all_goals try refine' frzZ
      ·all_goals try refine' frzZ
      ·conv=>whnf
       rcases x with e | cc
       ·skip
        repeat' (first|(refine ao [6,14,16,17] [6] [(901,18)] [(18,.lptr 901 0)] [(901,some (.box [.isl N 1 (fun i=>[.int .i64 (G i)])]))] ⟨⟨rfl,rfl⟩,sq1,sq1⟩ ?_;conv=>whnf)|refine' ah|(refine ba p16 ?_))
        exact ae ⟨.error e,rfl,mk _ hx⟩
       ·skip
        repeat' (first|(refine ao [6,14,16,17] [6] [(901,18)] [(18,.lptr 901 0)] [(901,some (.box [.isl N 1 (fun i=>[.int .i64 (G i)])]))] ⟨⟨rfl,rfl⟩,sq1,sq1⟩ ?_;conv=>whnf)|refine' ah|(refine ba p16 ?_))
        exact ae ⟨.ok cc,rfl,mk _ hx⟩
set_option maxHeartbeats 1000000 in
theorem gT (c:Curve) (h:WfG c) (t:Nat) (ht:t <= 1100000):q0d 98 [c.av,.int .i64 t] (.int .i64 (c.at t)):=by
 have hl:=h.len
 have hp:=h.per
 have hinc:=h.inc
 by_cases h1:(t:Int) < c.vals.length
 ·have e:c.at t = c.vals.getD (t:Int).toNat 0:=if_pos h1
  rw [e]
  refine opG func98 ntmps98 results98 fun w0 Im0 ρ0=>?_
  repeat' (first|refine' ak | fail)
  all_goals first|(exfalso;omega)|exact Ψ|omega
 ·obtain ⟨f1,f2,f3,f4⟩:=a9 (a:=(t:Int) - c.vals.length) (p:=c.per) ω hp.1
  obtain ⟨q,eq⟩:∃ q,q = ((t:Int) - c.vals.length).tdiv c.per:=⟨_,rfl⟩
  rw [<- eq] at f1 f2 f3 f4
  have f6:(q + 1) * c.per = q * c.per + c.per:=by rw [Int.add_mul,Int.one_mul]
  have hv:=h.getD (i:=((t:Int) - (q + 1) * c.per).toNat) ω
  have h4:(q + 1) * c.inc <= 1100001 * 1099511627776:=Int.mul_le_mul ω hinc.2 hinc.1 ω
  have h5:0 <= (q + 1) * c.inc:=Int.mul_nonneg ω hinc.1
  have hi:¬ (c.vals.getD ((t:Int) - (q + 1) * c.per).toNat 0 = inf):=by unfold inf;omega
  have e:c.at t = c.vals.getD ((t:Int) - (q + 1) * c.per).toNat 0 + (q + 1) * c.inc:=by
   unfold Curve.at
   rw [if_neg h1,<- eq,if_neg hi]
  have hi':¬ (c.vals.getD ((t:Int) - (((t:Int) - c.vals.length).tdiv c.per + 1) * c.per).toNat 0 = inf):=by rw [<- eq];exact hi
  rw [e]
  refine opG func98 ntmps98 results98 fun w0 Im0 ρ0=>?_
  repeat' (first|(refine aa (fun hb=>absurd hb hi') (fun hb=>?_);conv=>whnf)|refine' ak | fail)
  all_goals try simp only [<- eq] at *
  all_goals first|(exfalso;omega)|exact Ψ|exact ariA
theorem AN {b o:Curve} (hb:WfC b) (fb:FinC b) (gb:WfG b) (ho:WfC o) (fo:FinC o) (go:WfG o) (θ u:Nat) (hm:u <= 1100000):∃ x:Int,x = rS (gapD b o θ) θ u/\q0d 221 [b.av,o.av,.int .i64 θ,.int .i64 u] (.int .i64 x):=by
 have p1:=gT b gb u hm
 have p2:=gT o go (u - θ) ω
 have b1:=bc hb fb u
 have b2:=bc ho fo (u - θ)
 have n1:¬ b.at u = 4611686018427387904:=ω
 unfold rS
 by_cases hu:(u:Int) <= θ
 ·rw [if_pos ω]
  refine opE func221 ntmps221 results221 ?_
  repeat' (first|(refine aa (fun hb=>?_) (fun hb=>absurd hu hb);conv=>whnf)|refine' ah | fail)
  exact ae ⟨_,rfl,rfl⟩
 ·have e:((u - θ:Nat):Int) = (u:Int) - θ:=ω
  unfold gapD
  rw [e] at p2 b2 ⊢
  have n2:¬ o.at ((u:Int) - θ) = 4611686018427387904:=ω
  rw [if_neg ω]
  refine opE func221 ntmps221 results221 ?_
  repeat' (first|(refine aa (fun hb=>absurd hb hu) (fun hb=>?_);conv=>whnf)|(refine aa (fun hb=>absurd hb n2) (fun hb=>?_);conv=>whnf)|(refine aa (fun hb=>absurd hb n1) (fun hb=>?_);conv=>whnf)|refine' ah|(refine ab p1 ?_)|(refine ab p2 ?_))
  all_goals try exact ariA
  exact ae ⟨_,rfl,rfl⟩
theorem CK {D:Nat -> Int} {θ S P N u:Nat} {δ m:Int} (hP:1 <= P) (hS:θ < S) (hr:∀ u,S <= u -> D (u + P) = D u + δ) (hδ:0 <= δ) (hN:S + P <= N) (huN:u + P <= N) (h:fN (rS D θ) u N m):shG D θ u = m:=by
 obtain ⟨h1,w,w1,w2,w3⟩:=h
 have hall:∀ w,u <= w -> m <= rS D θ w:=by
  intro w
  induction w using Nat.strongRecOn with
  | ind w ih=>
   intro hw
   rcases ζ w N with h | h
   ·exact h1 w hw h
   ·have h3:=ih (w - P) ω ω
    have h4:=hr (w - P) ω
    rw [(ω:w - P + P = w)] at h4
    unfold rS at h3 ⊢
    rw [if_neg ω] at h3 ⊢
    omega
 have h5:=dO (D:=D) (θ:=θ) w1
 obtain ⟨v,v1,v2⟩:=gQ D θ u
 have h6:=hall v v1
 omega
theorem ShF.neg2 {D:Nat -> Int} {k F l v:Nat} {δ:Int} (h:ShF D k F l δ) (hf:0 < δ) (hv:400 <= v) (hw:D v < 0):CanQ (shG D k) (.error 3):=by
 refine ⟨rfl,nQ ?_ (v7 h.l1 h.kF h.rep hf)⟩
 have h2:=dO (D:=D) (θ:=k) hv
 have h3:=kv D k 400
 unfold rS at h2
 split at h2<;>omega
theorem Ep {D:Nat -> Int} {k f M:Nat} {w t:Int} (hk:k < f) (h:fN D f M w) (h':fN (rS D k) f M t):t = max 0 w:=by
 obtain ⟨a1,v,a2,a3,a4⟩:=h
 obtain ⟨b1,u,b2,b3,b4⟩:=h'
 have c1:=a1 u b2 b3
 have c2:=b1 v a2 a3
 unfold rS at b4 c2
 rw [if_neg ω] at b4 c2
 omega
def rI (G:Nat -> Int) (v:Nat):Nat -> List AV:=fun i=>[.int .i64 (bif Nat.ble v i then G i else 0)]
theorem kw {G:Nat -> Int} {v i:Nat} (h:v <= i):rI G v i = [.int .i64 (G i)]:=by
 unfold rI
 rw [Nat.ble_eq.mpr h];rfl
theorem ky {G:Nat -> Int} {v i:Nat} (h:¬ v <= i):rI G v i = [.int .i64 0]:=by
 unfold rI
 have e:Nat.ble v i = false:=Bool.eq_false_iff.2 fun g=>h (Nat.ble_eq.mp g)
 rw [e];rfl
theorem yq {G:Nat -> Int} {v i:Nat} (h:i < v - 1):rI G v i = rI G (v - 1) i:=by
 rw [ky ω,ky ω]
theorem yr {G:Nat -> Int} {i v u:Nat} {x:Int} (hv:u + 1 = v) (h:x = G u):(bif Nat.beq i u then [AV.int .i64 x] else rI G v i) = rI G (v - 1) i:=by
 subst h
 by_cases e:i = u
 ·subst e
  rw [Nat.beq_refl,kw (v:=v - 1) ω];rfl
 ·have e1:Nat.beq i u = false:=Bool.eq_false_iff.2 fun h=>e (Nat.eq_of_beq_eq_true h)
  rw [e1]
  by_cases g:v <= i
  ·rw [kw (v:=v - 1) ω];exact kw g
  ·rw [ky (v:=v - 1) ω];exact ky g
set_option maxHeartbeats 4000000 in
theorem yu (c d:Curve) (hc:Gd c) (hd:Gd d) (θ:Int):∃ x,js c d θ x/\q0d 166 [c.av,d.av,.int .i64 θ] (az x):=by
 obtain ⟨wc,lc,sc⟩:=fA hc
 obtain ⟨wd,ld,sd⟩:=fA hd
 have mc:MonF c:=bL hc
 have md:MonF d:=bL hd
 obtain ⟨_,rfl,p1⟩:=dV c (bZ wc lc mc)
 obtain ⟨_,rfl,p2⟩:=dV d (bZ wd ld md)
 by_cases hθ:0 <= θ/\θ <= 1048576
 rotate_left
 ·refine ⟨.error 2,fun _ _=>by rw [if_neg hθ],?_⟩
  refine opG func166 ntmps166 results166 fun w0 Im0 ρ0=>?_
  repeat' (first|refine' ak|(refine ab p1 ?_)|(refine ab p2 ?_))
  all_goals first|exact Ψ|(exfalso;omega)|omega
 obtain ⟨k,rfl⟩:=γ hθ.1
 obtain ⟨y,⟨hy,hE⟩,p3⟩:=mi c d wc wd
 obtain ⟨a',b',k1,k2,k3⟩:=hE hc hd
 rcases y with ⟨u,w,e⟩ | ⟨a,b,l⟩
 ·obtain ⟨rfl,hcom⟩:=k3
  refine ⟨.error 3,fun _ _=>by rw [if_pos hθ];exact ⟨a',b',k1,k2,by rw [if_neg hcom]⟩,?_⟩
  rcases u with _ | u<;>rcases w with _ | w
  all_goals
   refine opG func166 ntmps166 results166 fun w0 Im0 ρ0=>?_
   repeat' (first|refine' ak|(refine ab p1 ?_)|(refine ab p2 ?_)|(refine ab p3 ?_))
   all_goals first|exact Ψ|(exfalso;omega)|omega
 obtain ⟨rfl,rfl,hcom,_⟩:=k3
 obtain ⟨qa,qb,hl,hl2⟩:=hy
 have la:=qa.lim lc
 have lb:=qb.lim ld
 have ma:=qa.mono mc
 have mb:=qb.mono md
 obtain ⟨aw,fa,ea,_⟩:=k1
 obtain ⟨bw,fb,eb,_⟩:=k2
 obtain ⟨_,rfl,p4⟩:=bF a (bZ qa.wf la ma)
 obtain ⟨_,rfl,p5⟩:=bF b (bZ qb.wf lb mb)
 have p6:=jz a b qa.wf la qb.wf lb l hl2
 have p0:=nJ
 have al:=aw.len
 have bl:=bw.len
 have hl1:=hl.pos
 obtain ⟨m1,hm1⟩:=hl.left
 obtain ⟨m2,hm2⟩:=hl.right
 obtain ⟨δ,eδ⟩:∃ δ,δ = fM a l - fM b l:=⟨_,rfl⟩
 rw [<- eδ] at p6
 obtain ⟨D,eD⟩:∃ D,D = gapD a b k:=⟨_,rfl⟩
 have g7:=lw qa.wf la hl2
 have g8:=lw qb.wf lb hl2
 have hSh:ShF D k (k + 400) l δ:=⟨hl1,ω,fun u hu=>by
  rw [eD]
  unfold gapD
  have h1:=fC qa.wf (l:=l) (m:=m1) (by rw [hm1,Nat.mul_comm]) (t:=u) ω
  have h2:=fC qb.wf (l:=l) (m:=m2) (by rw [hm2,Nat.mul_comm]) (t:=u - k) ω
  rw [(ω:u + l - k = (u - k) + l),h1,h2]
  omega⟩
 have hbd:∀ w:Nat,w <= 1100000 -> -4503599627370496 <= D w/\D w <= 4503599627370496:=fun w hw=>by
  have b1:=bc aw fa w
  have b2:=bc bw fb (w - k)
  rw [eD]
  unfold gapD
  omega
 have hbr:∀ w:Nat,w <= 1100000 -> 0 <= rS D k w/\rS D k w <= 4503599627370496:=fun w hw=>by
  have h1:=hbd w hw
  unfold rS
  split<;>omega
 have mw:=mr (D:=D) (F:=k + 400) l hl1 fun w h1 h2=>by have:=hbd w ω;omega
 have mt:=mr (D:=rS D k) (F:=k + 400) l hl1 fun w h1 h2=>by have:=hbr w ω;omega
 have et:=Ep ω mw mt
 obtain ⟨w,ew⟩:∃ w,w = winL D (k + 400) l:=⟨_,rfl⟩
 rw [<- ew] at mw et
 have mk:∀ x,CanQ (shG D k) x -> js c d k x:=fun x hx _ _=>by
  rw [if_pos hθ]
  refine ⟨a,b,⟨aw,fa,ea,by assumption⟩,⟨bw,fb,eb,by assumption⟩,?_⟩
  rw [if_pos hcom,χ]
  exact hx.of fun t=>tN (fun u hu=>by rw [eD];unfold gapD shD;rw [ea,eb]) t
 refine opE func166 ntmps166 results166 ?_ (hcl:=⟨rfl,rfl,by simp⟩) (hco:=fun x=>⟨aB x _,by simp,rfl⟩)
 repeat' (first|refine' ah|(refine ab p1 ?_)|(refine ab p2 ?_)|(refine ab p3 ?_)|(refine ab p4 ?_)|(refine ab p5 ?_)|(refine ab p6 ?_)|(refine ab p0 ?_))
 all_goals try exact ariB
 refine ag (ι:={j:Nat // j <= l}) [2,6,8,9,10,12,13,14] [6,8,9] [] ⟨0,π _⟩ (fun ⟨j,_⟩=>l - j) (fun ⟨j,_⟩=>[(15,.int .i64 (winL (rS D k) (k + 400) j)),(16,.int .i64 ((k:Int) + 400 + j))]) (fun _=>[]) ?_ ?_
 ·exact ⟨⟨rfl,rfl⟩,sq1,sq1⟩
 rintro ⟨j,hj⟩
 conv=>whnf
 by_cases hjl:(k:Int) + 400 + j < (k:Int) + 400 + l
 ·obtain ⟨x,ex,p7⟩:=AN aw fa qa.wf bw fb qb.wf k (k + 400 + j) ω
  rw [<- eD] at ex
  have hx:=hbr (k + 400 + j) ω
  rw [<- ex] at hx
  rw [(ω:((k + 400 + j:Nat):Int) = (k:Int) + 400 + j)] at p7
  have en:min (winL (rS D k) (k + 400) j) x = winL (rS D k) (k + 400) (j + 1):=by rw [ex];rfl
  repeat' (first|(refine' aS [] ⟨j + 1,ω⟩<;>first|exact Ξ en|exact sq1)|(refine aa (fun hb=>?_) (fun hb=>absurd hjl hb);conv=>whnf)|refine' ah|(refine ab p7 ?_))
  all_goals try exact ariA
 obtain rfl:l = j:=ω
 by_cases hk4:400 <= k
 ·skip
  repeat' (first|(refine aa (fun hb=>absurd hb hjl) (fun hb=>?_);conv=>whnf)|refine' ah|(refine ab p5 ?_)|(refine ab p0 ?_))
  all_goals try first|exact ariA|(exfalso;omega)|exact ae ⟨.ok (ar 0),rfl,mk _ (hSh.flat mw ω)⟩|exact ae ⟨.error 3,rfl,mk _ (hSh.lim mw ω hk4)⟩
 ·skip
  repeat' (first|(refine aa (fun hb=>absurd hb hjl) (fun hb=>?_);conv=>whnf)|refine' ah|(refine ab p5 ?_)|(refine ab p0 ?_))
  all_goals try first|exact ariA|(exfalso;omega)|exact ae ⟨.ok (ar 0),rfl,mk _ (hSh.flat mw ω)⟩
  all_goals
   obtain ⟨N,eN⟩:∃ N:Nat,N = k + 400 + l:=⟨_,rfl⟩
   refine ag (ι:={j:Nat // j <= l/\(0 < δ -> ∀ i,i < j -> 0 <= D (k + 400 + i))}) [2,6,8,9,10,12,13,14] [6,8,9] [] ⟨0,π _,fun _ i hi=>absurd hi (Nat.not_lt_zero i)⟩ (fun ⟨j,_⟩=>l - j) (fun ⟨j,_⟩=>[(17,.lptr 17 0),(18,.int .i64 ((k:Int) + 400 + j))]) (fun _=>[(17,some (.box [.osl 106 N,.int .i64 l,.int .i64 δ])),(106,some (.arr N 1 (fun _=>[.int .i64 0]) 3))]) ?_ ?_
   ·refine ⟨⟨rfl,rfl⟩,?_,?_⟩
    all_goals ((refine' subP)<;>first|exact q0b ω fun i hi=>rfl|exact Θ (congrArg (AV.osl 106) ω)|exact ObLe.box (.cons (Θ (congrArg (AV.osl 106) ω)) (.cons Ψ (.cons Ψ .nil)))|exact sq1)
   rintro ⟨j,hj,hI⟩
   conv=>whnf
   by_cases hjl:(k:Int) + 400 + j < (k:Int) + 400 + l
   ·have p8:=gT a qa.wf (k + 400 + j) ω
    have p9:=gT b qb.wf (400 + j) ω
    have hDj:D (k + 400 + j) = a.at ((k:Int) + 400 + j) - b.at ((k:Int) + 400 + j - k):=by
     rw [eD];unfold gapD
     rw [(ω:k + 400 + j - k = 400 + j),(ω:((k + 400 + j:Nat):Int) = (k:Int) + 400 + j),(ω:((400 + j:Nat):Int) = (k:Int) + 400 + j - k)]
    rw [(ω:((k + 400 + j:Nat):Int) = (k:Int) + 400 + j)] at p8
    rw [(ω:((400 + j:Nat):Int) = (k:Int) + 400 + j - k)] at p9
    by_cases hδp:0 < δ
    ·by_cases hn:a.at ((k:Int) + 400 + j) < b.at ((k:Int) + 400 + j - k)
     ·skip
      repeat' (first|(refine aa (fun hb=>?_) (fun hb=>absurd hn hb);conv=>whnf)|(refine aa (fun hb=>?_) (fun hb=>absurd hδp hb);conv=>whnf)|(refine aa (fun hb=>?_) (fun hb=>absurd hjl hb);conv=>whnf)|refine' ah|(refine ab p8 ?_)|(refine ab p9 ?_))
      all_goals try first|exact ariA|exact ae ⟨.error 3,rfl,mk _ (hSh.neg2 hδp (v:=k + 400 + j) ω ω)⟩
     ·skip
      repeat' (first|(exact aK [] ⟨j + 1,ω,fun h i hi=>(ζ i j).elim (hI h i) fun h9=>by have e9:i = j:=ω;subst e9;omega⟩)|(refine aa (fun hb=>absurd hb hn) (fun hb=>?_);conv=>whnf)|(refine aa (fun hb=>?_) (fun hb=>absurd hδp hb);conv=>whnf)|(refine aa (fun hb=>?_) (fun hb=>absurd hjl hb);conv=>whnf)|refine' ah|(refine ab p8 ?_)|(refine ab p9 ?_))
      all_goals try exact ariA
    ·skip
     repeat' (first|(exact aK [] ⟨j + 1,ω,fun h=>absurd h hδp⟩)|(refine aa (fun hb=>absurd hb hδp) (fun hb=>?_);conv=>whnf)|(refine aa (fun hb=>?_) (fun hb=>absurd hjl hb);conv=>whnf)|refine' ah | fail)
     all_goals try exact ariA
   obtain rfl:l = j:=ω
   repeat' (first|(refine aa (fun hb=>absurd hb hjl) (fun hb=>?_);conv=>whnf)|refine' ah | fail)
   all_goals try exact ariA
   have hd0:0 <= δ:=ω
   have hnn:∀ u,k + 400 <= u -> 0 <= D u:=tO hl1 hSh.rep hd0 fun u h1 h2=>by
    by_cases hδp:0 < δ
    ·have h3:=hI hδp (u - (k + 400)) ω
     rw [(ω:k + 400 + (u - (k + 400)) = u)] at h3
     exact h3
    ·have:=mw.1 u h1 h2;omega
   obtain ⟨M,eM⟩:∃ M:Nat,M = N + l:=⟨_,rfl⟩
   obtain ⟨G,eG⟩:∃ G,G = shG D k:=⟨_,rfl⟩
   refine ag (ι:={p:Nat × Int // p.1 <= M/\((p.1 = M/\p.2 = 4611686018427387904) \/ (p.1 < M/\fN (rS D k) p.1 M p.2))}) [2,6,8,9] [6,8,9] [] ⟨(M,4611686018427387904),ξ _,.inl ⟨rfl,rfl⟩⟩ (fun ⟨(v,_),_⟩=>v) (fun ⟨(v,m),_⟩=>[(15,.int .i64 m),(17,.lptr 17 0),(19,.int .i64 ((v:Int) - 1))]) (fun ⟨(v,_),_⟩=>[(17,some (.box [.osl 106 N,.int .i64 l,.int .i64 δ])),(106,some (.arr N 1 (rI G v) 3))]) ?_ ?_
   ·refine ⟨⟨rfl,rfl⟩,?_,?_⟩
    all_goals ((refine' subP)<;>first|exact q0b rfl fun i hi=>(ky ω).symm|exact Ξ ω|exact sq1)
   rintro ⟨⟨v,m⟩,hv,hm⟩
   conv=>whnf
   dsimp only at hv hm
   by_cases hv0:(v:Int) - 1 >= 0
   ·obtain ⟨x,ex,p8⟩:=AN aw fa qa.wf bw fb qb.wf k (v - 1) ω
    rw [<- eD] at ex
    have hx:=hbr (v - 1) ω
    rw [<- ex] at hx
    rw [(ω:((v - 1:Nat):Int) = (v:Int) - 1)] at p8
    have hst:fN (rS D k) (v - 1) M (min m x):=by
     rcases hm with ⟨rfl,rfl⟩ | ⟨h1,h2⟩
     ·rw [(ω:min 4611686018427387904 x = x),ex]
      exact ⟨fun w a b=>by obtain rfl:w = v - 1:=ω;exact Int.le_refl _,v - 1,ξ _,ω,rfl⟩
     ·rw [ex]
      exact fN.step (by rw [(ω:v - 1 + 1 = v)];exact h2) ω
    by_cases hvN:(v:Int) - 1 < N
    ·have hG:min m x = G (v - 1):=by
      rw [eG]
      exact (CK hl1 hSh.kF hSh.rep hd0 ω ω hst).symm
     have hG2:min m x = G ((v:Int) - 1).toNat:=by rw [(ω:((v:Int) - 1).toNat = v - 1)];exact hG
     repeat' (first|(refine' aS [] ⟨(v - 1,min m x),κ,.inr ⟨κ,hst⟩⟩<;>first|exact q0b rfl fun i hi=>yr ω hG2|exact sq1)|(refine aa (fun hb=>?_) (fun hb=>absurd hvN hb);conv=>whnf)|(refine aa (fun hb=>?_) (fun hb=>absurd hv0 hb);conv=>whnf)|refine' ah|(refine ab p8 ?_))
     all_goals try exact ariA
    ·skip
     repeat' (first|(refine' aS [] ⟨(v - 1,min m x),κ,.inr ⟨κ,hst⟩⟩<;>first|exact q0b rfl fun i hi=>yq ω|exact sq1)|(refine aa (fun hb=>absurd hb hvN) (fun hb=>?_);conv=>whnf)|(refine aa (fun hb=>?_) (fun hb=>absurd hv0 hb);conv=>whnf)|refine' ah|(refine ab p8 ?_))
     all_goals try exact ariA
   have hv00:v = 0:=ω
   have hGb:∀ t,t <= 1100000 -> 0 <= G t/\G t <= 4503599627370496:=fun t ht=>by
    have h1:=kv D k t
    have h2:=dO (D:=D) (θ:=k) (ξ t)
    have h3:=hbr t ht
    rw [eG]
    omega
   have hrep:∀ t,k + 400 <= t -> G (t + l) = G t + δ:=fun t ht=>by rw [eG];exact rF hSh.kF hSh.rep hnn t ht
   have hat:=fZ (F:=G) hl1 hrep (fun t ht=>by have:=hGb t ω;unfold inf;omega)
   rw [<- eN] at hat
   have hlen:((List.range N).map G).length = N:=by simp
   obtain ⟨x,_,_,hX,p10⟩:=cV ⟨(List.range N).map G,l,δ⟩ ⟨by dsimp only;rw [hlen];omega,by dsimp only;rw [hlen];omega,κ,fun y hy=>by
    obtain ⟨i,hi,rfl⟩:=List.mem_map.1 hy
    have:=List.mem_range.1 hi
    have:=hGb i ω
    omega⟩
   have hx:CanQ (shG D k) x:=by
    refine (hX fun t=>?_).of fun t=>by rw [hat,eG]
    rw [hat,hat,eG]
    exact gR ω
   have p11:q0d 99 [.agg [.isl N 1 (fun i=>[.int .i64 (G i)]),.int .i64 l,.int .i64 δ]] (az x) :=
    p10.arg (.cons (AvLe.agg (.cons (Γ hlen.symm fun i hi=>congrArg (fun z=>[AV.int .i64 z]) (bI hi).symm) (.cons Ψ (.cons Ψ .nil)))) .nil)
   repeat (refine gvE ?_;conv=>whnf)
   refine aa (fun hb=>absurd hb hv0) (fun hb=>?_)
   conv=>whnf
   refine ao [6,17] [6] [] [] [(17,some (.box [.osl 106 N,.int .i64 l,.int .i64 δ])),(106,some (.arr N 1 (fun i=>[.int .i64 (G i)]) 3))] ⟨⟨rfl,rfl⟩,?_,?_⟩ ?_
   ·skip
    all_goals ((refine' subP)<;>first|exact q0b rfl fun i hi=>kw ω|exact sq1)
   ·skip
    all_goals exact sq1
   ·conv=>whnf
    refine ay 106 rfl rfl (fun _ _=>rfl) ?_ ?_ ?_
    ·all_goals try refine' frzZ
    ·all_goals try refine' frzZ
    ·conv=>whnf
     rcases x with e | cc
     ·skip
      repeat' (first|refine' ah|(refine ab p11 ?_))
      exact ae ⟨.error e,rfl,mk _ hx⟩
     ·skip
      repeat' (first|refine' ah|(refine ab p11 ?_))
      exact ae ⟨.ok cc,rfl,mk _ hx⟩
theorem js.same {c d:Curve} (hc:Gd c) (hd:Gd d) {θ:Int} {x y:Except Int Curve} (hx:js c d θ x) (hy:js c d θ y):x = y:=by
 have h:=hx hc hd
 have k:=hy hc hd
 split at h
 ·rename_i g
  rw [if_pos g] at k
  obtain ⟨a,b,h1,h2,h3⟩:=h
  obtain ⟨a',b',k1,k2,k3⟩:=k
  cases h1.unique k1
  cases h2.unique k2
  split at h3
  ·rename_i q
   rw [if_pos q] at k3
   exact h3.unique k3
  ·rename_i q
   rw [if_neg q] at k3
   rw [h3,k3]
 ·rename_i g
  rw [if_neg g] at k
  rw [h,k]
def rJ (k:Int):Except Int Curve:=if 0 <= k/\k <= 398 then .ok (am k.toNat) else .error 2
theorem Er (k:Int):q0d 87 [.int .i64 k] (az (rJ k)):=by
 unfold rJ
 by_cases h:0 <= k/\k <= 398
 ·rw [if_pos h]
  have p:=zU k.toNat ω
  rw [(ω:((k.toNat:Nat):Int) = k)] at p
  refine opG func87 ntmps87 results87 fun w0 Im0 ρ0=>?_
  repeat' (first|refine' ak|(refine ab p ?_))
  all_goals first|exact Ψ|(exfalso;omega)
 ·rw [if_neg h]
  refine opG func87 ntmps87 results87 fun w0 Im0 ρ0=>?_
  repeat' (first|refine' ak | fail)
  all_goals first|exact Ψ|(exfalso;omega)
theorem nS (k:Nat) (hk:k <= 1000):∃ o:Curve,o = am k/\q0d 96 [(am k).av] o.av:=by
 have hl:=aZ k
 refine opE func96 ntmps96 results96 ?_
 repeat' (first|refine' ah | fail)
 refine ag (ι:={i:Nat // i <= k + 1}) [1,2] [1,2] [] ⟨0,ω⟩ (fun ⟨i,_⟩=>k + 1 - i) (fun ⟨i,_⟩=>[(3,.int .i64 i)]) (fun _=>[]) ?_ ?_
 ·exact ⟨⟨rfl,rfl⟩,sq1,sq1⟩
 ·rintro ⟨i,hi2⟩
  conv=>whnf
  have hv:(am k).vals.getD (i:Int).toNat 0 = dL k i:=bU ω
  by_cases hlt:i = k + 1
  ·have hf:(am k).vals.getD (i:Int).toNat 0 = 4611686018427387904:=by rw [hv,hlt];exact if_pos rfl
   repeat' (first|(refine aa (fun hb=>?_) (fun hb=>absurd hf hb);conv=>whnf)|refine' ah | fail)
   all_goals try first|exact ariA|exact ⟨ξ _,nc ω (fun _ _=>rfl)⟩
   refine cj [2] [] [] [] [(2,some (.box [.osl 28 (k + 2),.int .i64 1,.int .i64 0])),(28,some (.arr (k + 2) 1 (fun i=>[.int .i64 ((am k).vals.getD i 0)]) 3))] ⟨⟨rfl,rfl⟩,?_,?_⟩ (ce 28 rfl rfl (fun _ _=>rfl) ?_ ?_ (dH ?_))
   ·skip
    all_goals ((refine' subP)<;>first|exact q0b ω fun i hi=>rfl|exact ObLe.box (.cons (Θ (congrArg (AV.osl 28) ω)) (.cons Ψ (.cons Ψ .nil)))|exact sq1)
   ·skip
    all_goals exact sq1
   ·all_goals try refine' frzZ
   ·all_goals try refine' frzZ
   ·conv=>whnf
    exact ⟨am k,AvLe.agg (.cons (Γ hl.symm fun i hi=>rfl) (.cons Ψ (.cons Ψ .nil))),rfl⟩
  ·have hf:¬ (am k).vals.getD (i:Int).toNat 0 = 4611686018427387904:=by rw [hv];unfold dL;rw [if_neg hlt];decide
   repeat' (first|(refine aa (fun hb=>absurd hb hf) (fun hb=>?_);conv=>whnf)|(exact aK [] ⟨i + 1,ω⟩)|refine' ah | fail)
   all_goals try exact ariA
set_option maxHeartbeats 2000000 in
theorem j2 (k:Nat) (hk:k <= 398):∃ b:Bool,b = true/\q0d 95 [(am k).av] (.bool b):=by
 have hl:=aZ k
 have hp:(am k).per = 1:=rfl
 have hi:(am k).inc = 0:=rfl
 have hlast:(am k).vals.getD (((am k).vals.length:Int) - 1).toNat 0 = 4611686018427387904:=by
  rw [hl,bU ω];exact if_pos ω
 have hget:∀ i:Nat,i < k + 1 -> (am k).vals.getD i 0 = 0:=fun i h=>by
  rw [bU ω];exact if_neg ω
 refine opE func95 ntmps95 results95 ?_
 repeat' (first|refine' ah | fail)
 all_goals try exact ariA
 refine ag (ι:={i:Nat // i <= k + 2}) [1,3] [1] [] ⟨0,ω⟩ (fun ⟨i,_⟩=>k + 2 - i) (fun ⟨i,_⟩=>[(4,.int .i64 i)]) (fun _=>[]) ?_ ?_
 ·exact ⟨⟨rfl,rfl⟩,sq1,sq1⟩
 ·rintro ⟨i,hi1⟩
  conv=>whnf
  have m1:0 < i -> i < k + 2 -> (am k).vals.getD ((i:Int) - 1).toNat 0 = 0:=fun h0 h1=>by
   rw [(ω:((i:Int) - 1).toNat = i - 1)];exact hget _ ω
  by_cases he:i = k + 1
  ·have b1:(am k).vals.getD (i:Int).toNat 0 = 4611686018427387904:=by
    rw [χ,bU ω];exact if_pos he
   have m2:=m1 ω ω
   repeat' (first|(exact aK [] ⟨i + 1,ω⟩)|refine' ah | fail)
   all_goals try first|exact ariA|exact ae ⟨false,rfl,by exfalso;omega⟩|(exfalso;omega)
  ·by_cases hlt:i < k + 1
   ·have b1:(am k).vals.getD (i:Int).toNat 0 = 0:=hget i hlt
    have m2:0 < i -> (am k).vals.getD ((i:Int) - 1).toNat 0 = 0:=fun h0=>m1 h0 ω
    repeat' (first|(exact aK [] ⟨i + 1,ω⟩)|refine' ah | fail)
    all_goals try first|exact ariA|exact ae ⟨false,rfl,by exfalso;omega⟩|(exfalso;omega)
   ·skip
    repeat' (first|refine' ah | fail)
    all_goals try first|exact ariA|exact ae ⟨false,rfl,by exfalso;omega⟩|exact ae ⟨true,rfl,rfl⟩|exact ae ⟨_,rfl,decide_eq_true ω⟩|(exfalso;omega)
theorem AO (k:Nat) (hk:k <= 398):q0d 99 [(am k).av] (az (.ok (am k))):=by
 obtain ⟨_,rfl,p1⟩:=nS k ω
 obtain ⟨_,rfl,p2⟩:=j2 k hk
 refine opG func99 ntmps99 results99 fun w0 Im0 ρ0=>?_
 repeat' (first|refine' ak|(refine ab p1 ?_)|(refine ab p2 ?_))
 all_goals exact Ψ
theorem wU {k n i:Nat} {g:Nat -> List AV} (hn:n = k + 1) (hi:i < n + 1) (hg:g 0 = [.int .i64 inf]):(bif Nat.blt i n then [AV.int .i64 0] else g (i - n)) = [.int .i64 (dL k i)]:=by
 unfold dL
 by_cases h:i < n
 ·rw [Nat.blt_eq.mpr h,if_neg ω];rfl
 ·have e:Nat.blt i n = false:=Bool.eq_false_iff.2 fun g=>h (Nat.blt_eq.mp g)
  rw [e,if_pos ω,(ω:i - n = 0)];exact hg
theorem CL (k:Nat) (hk:k <= 398):q0d 168 [.int .i64 k] (az (.ok (am k))):=by
 have p1:=AO k hk
 have hl:=aZ k
 have p2:q0d 99 [.agg [.isl (((k:Int) + 1).toNat + 1) 1 (fun i=>[.int .i64 (dL k i)]),.int .i64 1,.int .i64 0]] (az (.ok (am k))) :=
  p1.arg (.cons (AvLe.agg (.cons (Γ ω fun i hi=>congrArg (fun z=>[AV.int .i64 z]) (bU ω).symm) (.cons Ψ (.cons Ψ .nil)))) .nil)
 refine opG func168 ntmps168 results168 fun w0 Im0 ρ0=>?_
 repeat' (first|refine' ak|(refine lx p2 rfl (ξ _) ?_ ?_ ?_;rotate_left;rotate_left;conv=>whnf))
 all_goals try first|exact ariA|exact Ψ|exact ⟨ξ _,bx ω rfl⟩
 ·exact fun i hi=>wU (k:=k) (g:=fun i=>List.take 1 (List.drop (i * 1) [AV.int .i64 inf])) ω hi rfl
 ·exact fun i hi=>(congrArg (nmL []) (wU (k:=k) (g:=fun i=>List.take 1 (List.drop (i * 1) [AV.int .i64 inf])) ω hi rfl)).trans rfl
theorem CM (k:Int):q0d 94 [.int .i64 k] (az (rJ k)):=by
 unfold rJ
 by_cases h:0 <= k/\k <= 398
 ·rw [if_pos h]
  have p:=CL k.toNat ω
  rw [(ω:((k.toNat:Nat):Int) = k)] at p
  refine opG func94 ntmps94 results94 fun w0 Im0 ρ0=>?_
  repeat' (first|refine' ak|(refine ab p ?_))
  all_goals first|exact Ψ|(exfalso;omega)
 ·rw [if_neg h]
  refine opG func94 ntmps94 results94 fun w0 Im0 ρ0=>?_
  repeat' (first|refine' ak | fail)
  all_goals first|exact Ψ|(exfalso;omega)
theorem CN {c:Int} (hc:0 <= c/\c <= 4000):CanQ (fun t:Nat=>(ar c).at t) (.ok (ar c)):=by
 have hg:=bg (c:=c) ω
 exact ⟨aW hg.1,hg.2,fun t=>rfl,⟨fun _ p' _ h=>h.1,fun _ _ _ _=>π _⟩⟩
theorem CO (c:Int) (hc:0 <= c/\c <= 4000):q0d 165 [.int .i64 c] (az (.ok (ar c))):=by
 obtain ⟨x,_,_,hC,p1⟩:=cV (ar c) (nK hc).1
 obtain rfl:=(hC fun t=>nL hc.1 t (t + 1) (Nat.le_succ t)).unique (CN hc)
 have p2:q0d 99 [.agg [.isl 1 1 (fun i=>[.int .i64 ([(0:Int)].getD i 0)]),.int .i64 1,.int .i64 c]] (az (.ok (ar c))):=p1
 refine opG func165 ntmps165 results165 fun w0 Im0 ρ0=>?_
 repeat' (first|refine' ak|(refine lx p2 rfl (ξ _) ?_ ?_ ?_;rotate_left;rotate_left;conv=>whnf))
 all_goals try first|exact ariA|exact Ψ
 ·exact fun i hi=>by obtain rfl:i = 0:=ω;rfl
 ·exact fun i hi=>by obtain rfl:i = 0:=ω;rfl
theorem tP (n:Net) (d:List (List Int)) (L C:Int) (hL:0 <= L/\L < n.lines.length) (hkind:(n.lines.getD L.toNat default).kind = 1) (hc:0 <= (n.lines.getD L.toNat default).cap/\(n.lines.getD L.toNat default).cap <= 4000) :
  q0d 155 [n.av,bt d,.int .i64 L,.int .i64 C] (az (.ok (ar (n.lines.getD L.toNat default).cap))):=by
 have p:=nh (n.lines.getD L.toNat default).cap hc
 refine opG func155 ntmps155 results155 fun w0 Im0 ρ0=>?_
 repeat' (first|(refine aa (fun hb=>?_) (fun hb=>absurd hkind hb);conv=>whnf)|refine' ak|(refine ab p ?_))
 all_goals first|exact Ψ|omega|(exfalso;omega)
open Classical in
noncomputable def dP (c d:Curve) (θ:Int):Except Int Curve:=if h:Gd c/\Gd d then Classical.choose (gm c d h.1 h.2 θ) else .error 3
theorem nT {c d:Curve} (hc:Gd c) (hd:Gd d) (θ:Int):q0d 156 [c.av,d.av,.int .i64 θ] (az (dP c d θ))/\q0d 166 [c.av,d.av,.int .i64 θ] (az (dP c d θ)):=by
 unfold dP
 rw [dif_pos ⟨hc,hd⟩]
 obtain ⟨h1,h2⟩:=Classical.choose_spec (gm c d hc hd θ)
 refine ⟨h2,?_⟩
 obtain ⟨x,h3,h4⟩:=yu c d hc hd θ
 rw [h1.same hc hd h3]
 exact h4
theorem js.ne {c d:Curve} (hc:Gd c) (hd:Gd d) {θ:Int} {e:Int} (h:js c d θ (.error e)):e ≠ 0:=by
 have h:=h hc hd
 split at h
 ·obtain ⟨a,b,_,_,h3⟩:=h
  split at h3
  ·have:=h3.1;omega
  ·injection h3 with h3;omega
 ·injection h with h;omega
theorem AP {c d:Curve} (hc:Gd c) (hd:Gd d) {θ:Int} {e:Int} (h:dP c d θ = .error e):e ≠ 0:=by
 unfold dP at h
 rw [dif_pos ⟨hc,hd⟩] at h
 have h1:=(Classical.choose_spec (gm c d hc hd θ)).1
 rw [h] at h1
 exact h1.ne hc hd
theorem gU {l:Line} {k:Nat} {cs:List Curve} {sz:List Sz} (h:SrvOk l k cs sz) (hg:GdAll cs) (hl1:¬ l.kind = 1):(cd (gP l k cs sz) (gP l k cs sz)/\AnyC (gP l k cs sz))/\q0d 216 (srvA l k cs sz) (az (gP l k cs sz))/\q0d 167 (srvA l k cs sz) (az (gP l k cs sz)):=by
 have hv:mj cs:=fun i hi=>(hg.gd i hi).1
 have hk:=h.k
 have hcl:=h.clen
 have hsl:=h.slen
 have hln:=h.line
 obtain ⟨b,⟨_,hb⟩,p1⟩:=Ce l hln k ω cs ω sz ω h.sizes
 obtain rfl:=hb hv
 obtain ⟨D,x,hS,_,p2⟩:=Av l k cs sz h hv p1
 obtain ⟨y,hy,p3⟩:=v4 l k cs sz h hg hl1
 obtain ⟨rfl,hy2⟩:=hy
 have hx:x = gP l k cs sz:=by
  unfold gP
  by_cases h2:l.kind = 2
  ·rw [if_pos h2]
   exact (hS.prioE h2 fun i hi=>hg.gd i ω).1
  ·rw [if_neg h2]
   exact (hS.oth hl1 h2).2.2.1
 have ha:=hS.dx
 rw [hx] at p2 ha
 exact ⟨⟨⟨rfl,hy2⟩,ha⟩,p2,p3⟩
theorem jc {n:Net} {d:List (List Int)} (h:NetOk n) (hw:NamesOk n) (hd:ShapeOk n d) {L:Int} (hL:0 <= L/\L < n.lines.length) {cs:List Curve} (hcs:dB n d L (n.lines.getD L.toNat default).classes.toNat = .ok cs):GdAll cs:=by
 obtain ⟨c1,c2⟩:=mq hcs
 refine ⟨fun i hi=>?_⟩
 obtain ⟨x,⟨rfl,hx⟩,_⟩:=pS n d h hw hd L i hL ω
 exact hx _ (c2 i ω)
noncomputable def offX (n:Net) (d:List (List Int)) (L:Int) (k:Nat):Except Int Curve :=
 if (n.lines.getD L.toNat default).kind = 1 then .ok (ar (n.lines.getD L.toNat default).cap)
 else match dB n d L (n.lines.getD L.toNat default).classes.toNat with
  | .error e=>.error e
  | .ok cs=>gP (n.lines.getD L.toNat default) k cs (i7 n L)
theorem yv (n:Net) (d:List (List Int)) (h:NetOk n) (hw:NamesOk n) (hd:ShapeOk n d) (L:Int) (hL:0 <= L/\L < n.lines.length) (k:Nat) (hk:(k:Int) < (n.lines.getD L.toNat default).classes) :
  q0d 155 [n.av,bt d,.int .i64 L,.int .i64 k] (az (offX n d L k)):=by
 have hl:=h.line (n.lines.getD L.toNat default) (by rw [ψ,β ω];exact List.getElem_mem _)
 unfold offX
 by_cases hkind:(n.lines.getD L.toNat default).kind = 1
 ·rw [if_pos hkind]
  exact tP n d L k hL hkind (by have:=hl.cap;omega)
 ·rw [if_neg hkind]
  have p1:=tF n d h hd L hL
  have p2:=CC h hL
  rcases hc:dB n d L (n.lines.getD L.toNat default).classes.toNat with e | cs
  ·have hne:=co (i6 h hd hc)
   rw [hc] at p1
   refine opG func155 ntmps155 results155 fun w0 Im0 ρ0=>?_
   repeat' (first|(refine aa (fun hb=>absurd hb hkind) (fun hb=>?_);conv=>whnf)|refine' ak|(refine ab p1 ?_))
   all_goals first|exact absurd (by assumption) hne|exact Ψ|omega|(exfalso;omega)
  ·rw [hc] at p1
   dsimp only
   obtain ⟨q1,_⟩:=wP h hd hL hk hc
   obtain ⟨_,p3,_⟩:=gU q1 (jc h hw hd hL hc) hkind
   obtain ⟨z,ez⟩:∃ z,z = gP (n.lines.getD L.toNat default) k cs (i7 n L):=⟨_,rfl⟩
   rw [<- ez] at p3 ⊢
   rcases z with e | z
   ·refine opG func155 ntmps155 results155 fun w0 Im0 ρ0=>?_
    repeat' (first|(refine aa (fun hb=>absurd hb hkind) (fun hb=>?_);conv=>whnf)|refine' ak|(refine ab p1 ?_)|(refine ab p2 ?_)|(refine ab p3 ?_))
    all_goals first|exact Ψ|omega|(exfalso;omega)
   ·refine opG func155 ntmps155 results155 fun w0 Im0 ρ0=>?_
    repeat' (first|(refine aa (fun hb=>absurd hb hkind) (fun hb=>?_);conv=>whnf)|refine' ak|(refine ab p1 ?_)|(refine ab p2 ?_)|(refine ab p3 ?_))
    all_goals first|exact Ψ|omega|(exfalso;omega)
theorem v8 {n:Net} {d:List (List Int)} (h:NetOk n) (hw:NamesOk n) (hd:ShapeOk n d) {L:Int} (hL:0 <= L/\L < n.lines.length) {k:Nat} (hk:(k:Int) < (n.lines.getD L.toNat default).classes) {z:Curve} (hz:offX n d L k = .ok z):Gd z:=by
 have hl:=h.line (n.lines.getD L.toNat default) (by rw [ψ,β ω];exact List.getElem_mem _)
 unfold offX at hz
 split at hz
 ·cases hz
  exact bg (by have:=hl.cap;omega)
 ·rename_i hkind
  split at hz
  ·cases hz
  ·rename_i cs hc
   obtain ⟨q1,_⟩:=wP h hd hL hk hc
   exact (gU q1 (jc h hw hd hL hc) hkind).1.1.2 z hz
theorem jd {n:Net} {d:List (List Int)} (h:NetOk n) (hw:NamesOk n) (hd:ShapeOk n d) {i k:Nat} (hi:i < n.flows.length) (hk:k < (n.flows.getD i default).route.length) {z:Curve} (hz:cY n d i ((n.flows.getD i default).route.getD k 0) (n.flows.getD i default).class_ = .ok z):Gd z:=by
 obtain ⟨x,⟨rfl,hx⟩,_⟩:=nP n d h hw hd i k hi hk
 exact hx z hz
theorem AQ {n:Net} {d:List (List Int)} (h:NetOk n) (hw:NamesOk n) (hd:ShapeOk n d) {L:Int} (hL:0 <= L/\L < n.lines.length) {k:Nat} (hk:(k:Int) < (n.lines.getD L.toNat default).classes) {e:Int} (hz:offX n d L k = .error e):e ≠ 0:=by
 unfold offX at hz
 split at hz
 ·cases hz
 ·rename_i hkind
  split at hz
  ·rename_i e' hc
   cases hz
   exact co (i6 h hd hc)
  ·rename_i cs hc
   obtain ⟨q1,_⟩:=wP h hd hL hk hc
   have:=(gU q1 (jc h hw hd hL hc) hkind).1.2
   rw [hz] at this
   exact co this
theorem tQ {st:Curve -> Int -> Except Int Curve} {e:Int}:∀ {V:List Int} {s:Curve},fh st s V = .error e -> ∃ s' j,j ∈ V/\st s' j = .error e
 | [],s,h=>by cases h
 | j :: r,s,h=>by
  rw [jb] at h
  rcases hs:st s j with e' | z
  ·rw [hs] at h
   cases h
   exact ⟨s,j,by simp,hs⟩
  ·rw [hs] at h
   obtain ⟨s',j',h1,h2⟩:=tQ h
   exact ⟨s',j',by simp [h1],h2⟩
theorem l6 {n:Net} {d:List (List Int)} (h:NetOk n) (hd:ShapeOk n d) {i:Nat} {L C e:Int} (hz:cY n d i L C = .error e):e ≠ 0:=by
 obtain ⟨s,j,hj,h1⟩:=tQ hz
 obtain ⟨w1,w2,w3⟩:=nq hj
 obtain ⟨q,rfl⟩:=γ w1
 unfold othS at h1
 split at h1
 ·cases h1
 ·rw [χ] at w3
  exact co (fj h hd ω w3 h1)
noncomputable def lS (n:Net) (d:List (List Int)) (i k:Nat) (θ:Int):Except Int Curve :=
 match cY n d i ((n.flows.getD i default).route.getD k 0) (n.flows.getD i default).class_ with
 | .error e=>.error e
 | .ok o=>match offX n d ((n.flows.getD i default).route.getD k 0) (n.flows.getD i default).class_.toNat with
  | .error e=>.error e
  | .ok b=>dP b o θ
theorem Es (n:Net) (d:List (List Int)) (h:NetOk n) (hw:NamesOk n) (hd:ShapeOk n d) (i k:Nat) (hi:i < n.flows.length) (hk:k < (n.flows.getD i default).route.length) (θ:Int) :
  q0d 86 [n.av,bt d,.int .i64 i,.int .i64 k,.int .i64 θ] (az (lS n d i k θ)):=by
 have hfo:FlowOk n.lines (n.flows.getD i default):=h.flow _ (by simp [hi])
 have hm:=a8 (l:=(n.flows.getD i default).route) (i:=k) hk
 have h1:=hfo.lines _ hm
 have h2:=hfo.cls2 _ hm
 have h0:=hfo.cls
 obtain ⟨_,rfl,p1⟩:=yp n d h hd i k hi hk
 have p2:=yv n d h hw hd ((n.flows.getD i default).route.getD k 0) h1 (n.flows.getD i default).class_.toNat ω
 rw [(ω:(((n.flows.getD i default).class_.toNat:Nat):Int) = (n.flows.getD i default).class_)] at p2
 unfold lS
 rcases ho:cY n d i ((n.flows.getD i default).route.getD k 0) (n.flows.getD i default).class_ with e | o
 ·rw [ho] at p1
  have he:=l6 h hd ho
  refine opG func86 ntmps86 results86 fun w0 Im0 ρ0=>?_
  repeat' (first|refine' ak|(refine ab p1 ?_))
  all_goals first|exact absurd (by assumption) he|exact Ψ|omega|(exfalso;omega)
 ·rw [ho] at p1
  have go:=jd h hw hd hi hk ho
  dsimp only
  rcases hb:offX n d ((n.flows.getD i default).route.getD k 0) (n.flows.getD i default).class_.toNat with e | b
  ·rw [hb] at p2
   have he:=AQ h hw hd h1 ω hb
   refine opG func86 ntmps86 results86 fun w0 Im0 ρ0=>?_
   repeat' (first|refine' ak|(refine ab p1 ?_)|(refine ab p2 ?_))
   all_goals first|exact absurd (by assumption) he|exact Ψ|(simp only [χ] at *;omega)|omega|(exfalso;omega)
  ·rw [hb] at p2
   have gb:=v8 h hw hd h1 ω hb
   have p3:=(nT gb go θ).1
   obtain ⟨z,ez⟩:∃ z,z = dP b o θ:=⟨_,rfl⟩
   dsimp only
   rw [<- ez] at p3 ⊢
   rcases z with e | z
   ·refine opG func86 ntmps86 results86 fun w0 Im0 ρ0=>?_
    repeat' (first|refine' ak|(refine ab p1 ?_)|(refine ab p2 ?_)|(refine ab p3 ?_))
    all_goals first|exact Ψ|(simp only [χ] at *;omega)|omega|(exfalso;omega)
   ·refine opG func86 ntmps86 results86 fun w0 Im0 ρ0=>?_
    repeat' (first|refine' ak|(refine ab p1 ?_)|(refine ab p2 ?_)|(refine ab p3 ?_))
    all_goals first|exact Ψ|(simp only [χ] at *;omega)|omega|(exfalso;omega)
theorem CP (n:Net) (d:List (List Int)) (h:NetOk n) (hw:NamesOk n) (hd:ShapeOk n d) (i k:Nat) (hi:i < n.flows.length) (hk:k < (n.flows.getD i default).route.length) (θ:Int) :
  q0d 93 [n.av,bt d,.int .i64 i,.int .i64 k,.int .i64 θ] (az (lS n d i k θ)):=by
 have hfo:FlowOk n.lines (n.flows.getD i default):=h.flow _ (by simp [hi])
 have hm:=a8 (l:=(n.flows.getD i default).route) (i:=k) hk
 have h1:=hfo.lines _ hm
 have h2:=hfo.cls2 _ hm
 have h0:=hfo.cls
 obtain ⟨_,⟨rfl,_⟩,p1⟩:=nP n d h hw hd i k hi hk
 obtain ⟨_,⟨rfl,hcg⟩,p2⟩:=AJ n d h hw hd ((n.flows.getD i default).route.getD k 0) h1
 unfold lS
 rcases ho:cY n d i ((n.flows.getD i default).route.getD k 0) (n.flows.getD i default).class_ with e | o
 ·rw [ho] at p1
  have he:=l6 h hd ho
  refine opG func93 ntmps93 results93 fun w0 Im0 ρ0=>?_
  repeat' (first|refine' ak|(refine ab p1 ?_))
  all_goals first|exact absurd (by assumption) he|exact Ψ|omega|(exfalso;omega)
 ·rw [ho] at p1
  have go:=jd h hw hd hi hk ho
  dsimp only
  by_cases hkind:(n.lines.getD ((n.flows.getD i default).route.getD k 0).toNat default).kind = 1
  ·have hl:=h.line (n.lines.getD ((n.flows.getD i default).route.getD k 0).toNat default) (by rw [ψ,β ω];exact List.getElem_mem _)
   have hcap:=hl.cap
   have e1:offX n d ((n.flows.getD i default).route.getD k 0) (n.flows.getD i default).class_.toNat = .ok (ar (n.lines.getD ((n.flows.getD i default).route.getD k 0).toNat default).cap):=by unfold offX;rw [if_pos hkind]
   rw [e1]
   dsimp only
   have p3:=CO (n.lines.getD ((n.flows.getD i default).route.getD k 0).toNat default).cap ω
   have p4:=(nT (bg (c:=(n.lines.getD ((n.flows.getD i default).route.getD k 0).toNat default).cap) ω) go θ).2
   obtain ⟨z,ez⟩:∃ z,z = dP (ar (n.lines.getD ((n.flows.getD i default).route.getD k 0).toNat default).cap) o θ:=⟨_,rfl⟩
   rw [<- ez] at p4 ⊢
   rcases z with e | z
   all_goals
    refine opG func93 ntmps93 results93 fun w0 Im0 ρ0=>?_
    repeat' (first|(refine aa (fun hb=>?_) (fun hb=>absurd hkind hb);conv=>whnf)|refine' ak|(refine ab p1 ?_)|(refine ab p3 ?_)|(refine ab p4 ?_))
    all_goals first|exact Ψ|(simp only [χ] at *;omega)|omega|(exfalso;omega)
  ·obtain ⟨sz,esz,p5⟩:=AK n h hw ((n.flows.getD i default).route.getD k 0) h1
   have es:i7 n ((n.flows.getD i default).route.getD k 0) = sz:=by rw [esz];exact A0 h h1
   unfold offX
   rw [if_neg hkind]
   rcases hc:dB n d ((n.flows.getD i default).route.getD k 0) (n.lines.getD ((n.flows.getD i default).route.getD k 0).toNat default).classes.toNat with e | cs
   ·rw [hc] at p2
    have he:=co (i6 h hd hc)
    refine opG func93 ntmps93 results93 fun w0 Im0 ρ0=>?_
    repeat' (first|(refine aa (fun hb=>absurd hb hkind) (fun hb=>?_);conv=>whnf)|refine' ak|(refine ab p1 ?_)|(refine ab p2 ?_))
    all_goals first|exact absurd (by assumption) he|exact Ψ|(simp only [χ] at *;omega)|omega|(exfalso;omega)
   ·rw [hc] at p2
    obtain ⟨q1,_⟩:=wP h hd h1 (k:=(n.flows.getD i default).class_.toNat) ω hc
    obtain ⟨⟨⟨_,hgd⟩,ha⟩,_,p6⟩:=gU q1 (jc h hw hd h1 hc) hkind
    rw [es] at p6 hgd ha ⊢
    unfold srvA at p6
    rw [(ω:(((n.flows.getD i default).class_.toNat:Nat):Int) = (n.flows.getD i default).class_)] at p6
    dsimp only
    rcases hb:gP (n.lines.getD ((n.flows.getD i default).route.getD k 0).toNat default) (n.flows.getD i default).class_.toNat cs sz with e | b
    ·rw [hb] at p6 ha
     have he:=co ha
     refine opG func93 ntmps93 results93 fun w0 Im0 ρ0=>?_
     repeat' (first|(refine aa (fun hb=>absurd hb hkind) (fun hb=>?_);conv=>whnf)|refine' ak|(refine ab p1 ?_)|(refine ab p2 ?_)|(refine ab p5 ?_)|(refine ab p6 ?_))
     all_goals first|exact absurd (by assumption) he|exact Ψ|(simp only [χ] at *;omega)|omega|(exfalso;omega)
    ·rw [hb] at p6
     have p4:=(nT (hgd b hb) go θ).2
     obtain ⟨z,ez⟩:∃ z,z = dP b o θ:=⟨_,rfl⟩
     dsimp only
     rw [<- ez] at p4 ⊢
     rcases z with e | z
     all_goals
      refine opG func93 ntmps93 results93 fun w0 Im0 ρ0=>?_
      repeat' (first|(refine aa (fun hb=>absurd hb hkind) (fun hb=>?_);conv=>whnf)|refine' ak|(refine ab p1 ?_)|(refine ab p2 ?_)|(refine ab p5 ?_)|(refine ab p6 ?_)|(refine ab p4 ?_))
      all_goals first|exact Ψ|(simp only [χ] at *;omega)|omega|(exfalso;omega)
noncomputable def be (n:Net) (d:List (List Int)) (i k:Nat) (c:Int):Except Int Curve :=
 if c < 0 then .error 2 else if 0 < c then lS n d i k (c - 1)
 else if (d.getD ((n.flows.getD i default).route.getD k 0).toNat []).getD (n.flows.getD i default).class_.toNat 0 < 0 then .error 5
 else rJ ((d.getD ((n.flows.getD i default).route.getD k 0).toNat []).getD (n.flows.getD i default).class_.toNat 0)
theorem AR (n:Net) (d:List (List Int)) (h:NetOk n) (hw:NamesOk n) (hd:ShapeOk n d) (i k:Nat) (hi:i < n.flows.length) (hk:k < (n.flows.getD i default).route.length) (c:Int) (hc:aj c) :
  q0d 53 [n.av,bt d,.int .i64 i,.int .i64 k,.int .i64 c] (az (be n d i k c)):=by
 have hfo:FlowOk n.lines (n.flows.getD i default):=h.flow _ (by simp [hi])
 have h1:=hfo.lines _ (a8 (l:=(n.flows.getD i default).route) (i:=k) hk)
 have h2:=hfo.cls2 _ (a8 (l:=(n.flows.getD i default).route) (i:=k) hk)
 have h0:=hfo.cls
 have h3:=hd.row ((n.flows.getD i default).route.getD k 0).toNat ω
 have hdl:=hd.len
 have p0:=pE n d h hd i k hi hk
 have p1:=Es n d h hw hd i k hi hk (c - 1)
 have p2:=Er ((d.getD ((n.flows.getD i default).route.getD k 0).toNat []).getD (n.flows.getD i default).class_.toNat 0)
 unfold aj at hc
 obtain ⟨z,ez⟩:∃ z,z = be n d i k c:=⟨_,rfl⟩
 rw [<- ez]
 unfold be at ez
 by_cases c1:c < 0
 ·rw [if_pos c1] at ez
  subst ez
  refine opG func53 ntmps53 results53 fun w0 Im0 ρ0=>?_
  repeat' (first|refine' ak|(refine ab p0 ?_))
  all_goals first|exact Ψ|(exfalso;omega)|omega
 ·rw [if_neg c1] at ez
  by_cases c2:0 < c
  ·rw [if_pos c2] at ez
   rw [<- ez] at p1
   rcases z with e | z
   all_goals
    refine opG func53 ntmps53 results53 fun w0 Im0 ρ0=>?_
    repeat' (first|refine' ak|(refine ab p0 ?_)|(refine ab p1 ?_))
    all_goals first|exact Ψ|(exfalso;omega)|exact ariA
  ·rw [if_neg c2] at ez
   by_cases c3:(d.getD ((n.flows.getD i default).route.getD k 0).toNat []).getD (n.flows.getD i default).class_.toNat 0 < 0
   ·rw [if_pos c3] at ez
    subst ez
    refine opG func53 ntmps53 results53 fun w0 Im0 ρ0=>?_
    repeat' (first|(refine aa (fun hb=>?_) (fun hb=>absurd c3 hb);conv=>whnf)|refine' ak|(refine ab p0 ?_))
    all_goals first|exact Ψ|(simp only [χ] at *;omega)|(exfalso;omega)|omega
   ·rw [if_neg c3] at ez
    rw [<- ez] at p2
    rcases z with e | z
    all_goals
     refine opG func53 ntmps53 results53 fun w0 Im0 ρ0=>?_
     repeat' (first|(refine aa (fun hb=>absurd hb c3) (fun hb=>?_);conv=>whnf)|refine' ak|(refine ab p0 ?_)|(refine ab p2 ?_))
     all_goals first|exact Ψ|(simp only [χ] at *;omega)|(exfalso;omega)|omega
theorem yw (n:Net) (d:List (List Int)) (h:NetOk n) (hw:NamesOk n) (hd:ShapeOk n d) (i k:Nat) (hi:i < n.flows.length) (hk:k < (n.flows.getD i default).route.length) (c:Int) (hc:aj c) :
  q0d 56 [n.av,bt d,.int .i64 i,.int .i64 k,.int .i64 c] (az (be n d i k c)):=by
 have hfo:FlowOk n.lines (n.flows.getD i default):=h.flow _ (by simp [hi])
 have h1:=hfo.lines _ (a8 (l:=(n.flows.getD i default).route) (i:=k) hk)
 have h2:=hfo.cls2 _ (a8 (l:=(n.flows.getD i default).route) (i:=k) hk)
 have h0:=hfo.cls
 have h3:=hd.row ((n.flows.getD i default).route.getD k 0).toNat ω
 have hdl:=hd.len
 obtain ⟨_,rfl,p0⟩:=cq n d h hw hd
 have p9:=wT n h i k hi hk
 have p1:=CP n d h hw hd i k hi hk (c - 1)
 have p2:=CM ((d.getD ((n.flows.getD i default).route.getD k 0).toNat []).getD (n.flows.getD i default).class_.toNat 0)
 unfold aj at hc
 obtain ⟨z,ez⟩:∃ z,z = be n d i k c:=⟨_,rfl⟩
 rw [<- ez]
 unfold be at ez
 by_cases c1:c < 0
 ·rw [if_pos c1] at ez
  subst ez
  refine opG func56 ntmps56 results56 fun w0 Im0 ρ0=>?_
  repeat' (first|refine' ak|(refine ab p0 ?_)|(refine ab p9 ?_))
  all_goals first|exact Ψ|(exfalso;omega)|omega
 ·rw [if_neg c1] at ez
  by_cases c2:0 < c
  ·rw [if_pos c2] at ez
   rw [<- ez] at p1
   rcases z with e | z
   all_goals
    refine opG func56 ntmps56 results56 fun w0 Im0 ρ0=>?_
    repeat' (first|refine' ak|(refine ab p0 ?_)|(refine ab p9 ?_)|(refine ab p1 ?_))
    all_goals first|exact Ψ|(exfalso;omega)|exact ariA
  ·rw [if_neg c2] at ez
   by_cases c3:(d.getD ((n.flows.getD i default).route.getD k 0).toNat []).getD (n.flows.getD i default).class_.toNat 0 < 0
   ·rw [if_pos c3] at ez
    subst ez
    refine opG func56 ntmps56 results56 fun w0 Im0 ρ0=>?_
    repeat' (first|(refine aa (fun hb=>?_) (fun hb=>absurd c3 hb);conv=>whnf)|refine' ak|(refine ab p0 ?_)|(refine ab p9 ?_))
    all_goals first|exact Ψ|(simp only [χ] at *;omega)|(exfalso;omega)|omega
   ·rw [if_neg c3] at ez
    rw [<- ez] at p2
    rcases z with e | z
    all_goals
     refine opG func56 ntmps56 results56 fun w0 Im0 ρ0=>?_
     repeat' (first|(refine aa (fun hb=>absurd hb c3) (fun hb=>?_);conv=>whnf)|refine' ak|(refine ab p0 ?_)|(refine ab p9 ?_)|(refine ab p2 ?_))
     all_goals first|exact Ψ|(simp only [χ] at *;omega)|(exfalso;omega)|omega
theorem yx (c:Curve) (hc:Gd c) (k:Nat) (hk:k <= 398):∃ (a:Curve) (T:Nat),(WfC a/\FinC a/\(∀ t:Nat,a.at t = c.at t)/\k + 1 <= T/\T <= 520)/\q0d 117 [c.av,(am k).av] (devR (.ok (a,am k,T,false))):=by
 obtain ⟨y,⟨hy,_,hN⟩,p1⟩:=b9 c
 obtain ⟨a,rfl⟩:=bD hc (hN hc)
 obtain ⟨_,aw,af⟩:=hy
 obtain ⟨fa,ea⟩:=af hc.2
 have p2:=n7 k hk
 have bw:=rl hk
 have ap:=aw.per
 have al:=aw.len
 have hl:=aZ k
 have hp:(am k).per = 1:=rfl
 obtain ⟨l,hlq,p3⟩:=gj a.per.toNat 1 ω ω
 have el:l = a.per.toNat:=by have:=hlq.eq;rw [Nat.gcd_one_right,Nat.div_one,Nat.mul_one] at this;exact this
 rw [(ω:((a.per.toNat:Nat):Int) = a.per)] at p3
 have p3:q0d 180 [.int .i64 a.per,.int .i64 (am k).per] (.int .i64 l):=p3
 have p4:=aQ a aw
 have p5:=aQ (am k) bw
 have p6:=bh a ω
 have p7:=bh (am k) ω
 have hfb:finB (am k) = false:=by unfold finB;rw [tv];rfl
 rw [hfb] at p7
 have h:(l:Int) <= 120:=ω
 obtain ⟨T0,eT⟩:∃ T0:Nat,max ((a.vals.length - a.per.toNat:Nat):Int) (((am k).vals.length - (am k).per.toNat:Nat):Int) + (l:Int) = (T0:Int):=⟨max (a.vals.length - a.per.toNat) ((am k).vals.length - (am k).per.toNat) + l,ω⟩
 have hpn:(am k).per.toNat = 1:=rfl
 refine ⟨a,T0,⟨aw,fa,ea,ω,ω⟩,?_⟩
 refine opG func117 ntmps117 results117 fun w0 Im0 ρ0=>?_
 repeat' (first|refine' ak|(refine ab p1 ?_)|(refine ab p2 ?_)|(refine ab p3 ?_)|(refine ab p4 ?_)|(refine ab p5 ?_)|(refine ab p6 ?_)|(refine ab p7 ?_))
 all_goals first|exact ariA|exact AvLe.tup (.cons (AvLe.agg (.cons Ψ (.cons Ψ (.cons Ψ (.cons Ψ (.cons Ψ (.cons Ψ (.cons (Ξ eT) (.cons Ψ .nil))))))))) (.cons Ψ .nil))
def cutF (c:Curve) (k:Nat):Nat -> Int:=fun t=>if t <= k then c.at t else 0
theorem yy (c:Curve) (hc:Gd c) (k:Nat) (hk:k <= 398):∃ x,DevE (cutF c k) (fun t=>(am k).at t) x/\q0d 63 [c.av,(am k).av] (dvR x):=by
 obtain ⟨a,T,⟨aw,fa,ea,hT1,hT2⟩,p1⟩:=yx c hc k hk
 have bw:=rl hk
 have hx:∃ D:Nat -> Int × Bool,∀ t:Nat,t < T -> RchQ (am k) (a.at t) ((D t).1 + t,(D t).2)/\q0c 119 [.int .i64 t,.lptr 901 0] [(901,.box (n4 (a,am k,T,false)))] (rchR (D t)) [(901,.box (n4 (a,am k,T,false)))] :=
  ⟨fun t=>if h:t <= 1000 then Classical.choose (jS a (am k) T false aw bw t h) else (0,true),fun t ht=>by
   have h:t <= 1000:=ω
   simp only [h,dite_true]
   exact Classical.choose_spec (jS a (am k) T false aw bw t h)⟩
 obtain ⟨D,hD⟩:=hx
 obtain ⟨⟨i,v,w⟩,hy,p2⟩:=tu 119 (.box (n4 (a,am k,T,false))) rfl rfl T ω D fun t ht=>(hD t ht).2
 obtain ⟨y1,y2,y3,y4⟩:=hy
 dsimp only at y1 y2 y3 y4
 have hm:=iu hk
 have hfin:=fun t:Nat=>bc aw fa t
 refine ⟨.ok (i,v,w),⟨fun hi=>?_,fun hi=>⟨y1,fun t=>?_,?_⟩⟩,?_⟩
 ·exfalso
  obtain ⟨t,ht,e⟩:=y2 hi
  obtain ⟨_,_,q4⟩:=(hD t ht).1
  have h1:=hfin t
  have h2:=q4 (by unfold inf;omega) e (k + 1)
  rw [cb hk,if_neg ω] at h2
  unfold inf at h2
  omega
 ·dsimp only
  unfold cutF
  rcases ζ k t with g | g
  ·rw [if_neg ω,cb hk]
   unfold inf
   split<;>omega
  ·rw [if_pos g,<- ea]
   have g:t < T:=ω
   obtain ⟨h1,h2⟩:=y3 hi t g
   obtain ⟨q1,q2,_⟩:=(hD t g).1
   have q3:=(q2 hm h1).1
   dsimp only at q1 q3
   rw [(ω:(D t).1 + (t:Int) = (((D t).1 + (t:Int)).toNat:Nat))] at q3
   exact Int.le_trans q3 (hm _ _ ω)
 ·by_cases hv0:v = 0
  ·exact .inl κ
  ·rcases y4 hi with e | ⟨t,ht,e⟩
   ·exact .inl κ
   ·obtain ⟨q1,q2,_⟩:=(hD t ht).1
    have q3:=(q2 hm (y3 hi t ht).1).2
    dsimp only at q1 q3 e ⊢
    have q4:=q3 (t + v.toNat - 1) ω
    refine .inr ⟨t,t + v.toNat - 1,ω,?_⟩
    unfold cutF
    rcases ζ k t with g | g
    ·exfalso
     rw [cb hk,if_neg ω] at q4
     have:=hfin t
     unfold inf at q4
     omega
    ·rw [if_pos g,<- ea]
     exact q4
 refine opG func63 ntmps63 results63 fun w0 Im0 ρ0=>?_
 repeat' (first|(refine aN [4,7] [4] [(901,6)] [(6,.lptr 901 0)] [(901,some (.box (n4 (a,am k,T,false))))] ⟨⟨rfl,rfl⟩,sq1,sq1⟩ ?_;conv=>whnf)|refine' ak|(refine ab p1 ?_)|(refine ba p2 ?_))
 all_goals exact Ψ
theorem tR (k:Nat) (hk:k <= 398):q0d 177 [(am k).av] (az (.ok (am k))):=by
 obtain ⟨_,rfl,p1⟩:=nS k ω
 obtain ⟨_,rfl,p2⟩:=j2 k hk
 refine opG func177 ntmps177 results177 fun w0 Im0 ρ0=>?_
 repeat' (first|refine' ak|(refine ab p1 ?_)|(refine ab p2 ?_))
 all_goals exact Ψ
theorem AS (k:Nat) (hk:k <= 398):q0d 97 [(am k).av] (.bool false):=by
 obtain ⟨_,rfl,p1⟩:=j2 k hk
 have hl:=aZ k
 have hlast:(am k).vals.getD (((am k).vals.length:Int) - 1).toNat 0 = 4611686018427387904:=by
  rw [hl,bU ω];exact if_pos ω
 refine opG func97 ntmps97 results97 fun w0 Im0 ρ0=>?_
 repeat' (first|refine' ak|(refine ab p1 ?_))
 all_goals first|exact ariA|exact Θ (congrArg AV.bool (by rw [hlast];rfl))|(rw [hlast];exact Ψ)
theorem tS (f g:Curve) (h1:f.vals.length <= 400) (h2:g.vals.length <= 400) (l:Nat) (hl:l <= 120):q0d 108 [f.av,g.av,.int .i64 l] (.int .i64 (((max f.vals.length g.vals.length + l:Nat)):Int)):=by
 refine opG func108 ntmps108 results108 fun w0 Im0 ρ0=>?_
 repeat' (first|refine' ak | fail)
 all_goals first|exact υ|(refine Ξ ?_;omega)|omega
theorem v9 (k:Nat) (hk:k <= 398) (v:Int) (hv:0 <= v/\v <= 4398046511104):∃ r:Nat,(r <= k + 1/\v <= (am k).at r/\∀ s:Nat,s < r -> (am k).at s < v)/\q0d 109 [(am k).av,.int .i64 v] (rchR (r,true)):=by
 have hl:=aZ k
 have ha:=cb hk
 refine opE func109 ntmps109 results109 ?_ (hcl:=⟨rfl,rfl,by simp⟩) (hco:=fun _=>⟨rg _ _,by simp,rfl⟩)
 repeat' (first|refine' ah | fail)
 refine ag (ι:={j:Nat // j <= k + 1/\∀ s:Nat,s < j -> (am k).at s < v}) [1,2] [2] [] ⟨0,π _,fun t ht=>ω⟩ (fun ⟨j,_⟩=>k + 2 - j) (fun ⟨j,_⟩=>[(6,.int .i64 j)]) (fun _=>[]) ?_ ?_
 ·exact ⟨⟨rfl,rfl⟩,sq1,sq1⟩
 ·rintro ⟨j,hj,hlt⟩
  conv=>whnf
  have hjl:(j:Int) < (am k).vals.length:=ω
  have hg:(am k).vals.getD (j:Int).toNat 0 = dL k j:=bU ω
  have hw:(am k).at j = dL k j:=by rw [br ω];exact hg
  by_cases hr:(am k).vals.getD (j:Int).toNat 0 >= v
  ·skip
   repeat' (first|(refine aa (fun hb=>?_) (fun hb=>absurd hr hb);conv=>whnf)|(refine aa (fun hb=>?_) (fun hb=>absurd hjl hb);conv=>whnf)|refine' ah | fail)
   all_goals try exact ariA
   exact ae ⟨j,rfl,hj,by rw [hw,<- hg];exact hr,hlt⟩
  ·have hjk:j <= k:=by
    rcases ζ k j with g | g
    ·exfalso
     apply hr
     rw [hg]
     unfold dL inf
     rw [if_pos ω]
     omega
    ·exact g
   repeat' (first|(exact aK [] ⟨j + 1,ω,fun s hs=>(ζ s j).elim (hlt s) fun h=>by have e:s = j:=ω;subst e;rw [hw,<- hg];exact Int.not_le.mp hr⟩)|(refine aa (fun hb=>absurd hb hr) (fun hb=>?_);conv=>whnf)|(refine aa (fun hb=>?_) (fun hb=>absurd hjl hb);conv=>whnf)|refine' ah | fail)
   all_goals try exact ariA
theorem yz (c:Curve) (hc:Gd c) (k:Nat) (hk:k <= 398):∃ (a:Curve) (l:Nat),(LeastQ c a/\1 <= l/\l <= 120)/\q0d 103 [c.av,(am k).av] (pairR (.ok (a,am k,l))):=by
 obtain ⟨cw,cl,_⟩:=fA hc
 obtain ⟨y,hy,he,hN,p1⟩:=cx c cw
 obtain ⟨a,rfl⟩:=bD hc (hN hc)
 obtain ⟨qa,_⟩:=hy a rfl
 have p2:=tR k hk
 have ap:=qa.wf.per
 have al:=(qa.lim cl).per
 have hp:(am k).per = 1:=rfl
 obtain ⟨l,hl,p3⟩:=Dx a.per.toNat 1 ω ω
 have el:l = a.per.toNat:=by have:=hl.eq;rw [Nat.gcd_one_right,Nat.div_one,Nat.mul_one] at this;exact this
 rw [(ω:((a.per.toNat:Nat):Int) = a.per)] at p3
 have p3:q0d 178 [.int .i64 a.per,.int .i64 (am k).per] (.int .i64 l):=p3
 refine ⟨a,l,⟨qa,ω,ω⟩,?_⟩
 refine opG func103 ntmps103 results103 fun w0 Im0 ρ0=>?_
 repeat' (first|refine' ak|(refine ab p1 ?_)|(refine ab p2 ?_)|(refine ab p3 ?_))
 all_goals first|(exfalso;omega)|exact Ψ
def AttW (a b:Curve) (W:Nat) (v:Int):Prop:=v = 0 \/ ∃ t s:Nat,t < W/\s + 1 = t + v.toNat/\b.at s < a.at t
set_option maxHeartbeats 2000000 in
theorem vA (c:Curve) (hc:Gd c) (k:Nat) (hk:k <= 398):∃ x,DevE (cutF c k) (fun t=>(am k).at t) x/\q0d 61 [c.av,(am k).av] (dvR x):=by
 obtain ⟨cw,cl,_⟩:=fA hc
 obtain ⟨a,l,⟨qa,hl1,hl2⟩,p0⟩:=yz c hc k hk
 have la:=qa.lim cl
 have ma:=qa.mono (bL hc)
 have va:=bZ qa.wf la ma
 obtain ⟨_,rfl,p1⟩:=bF a va
 have p2:=AS k hk
 have hlw:=aZ k
 have a1:=la.len
 have p4:=tS a (am k) a1 ω l hl2
 obtain ⟨W,eW⟩:∃ W,W = max a.vals.length (am k).vals.length + l:=⟨_,rfl⟩
 rw [<- eW] at p4
 have mb:=iu hk
 have hfin:=fun j:Nat=>bc (d9 qa.wf la).1 (d9 qa.wf la).2 j
 refine opE func61 ntmps61 results61 ?_ (hcl:=⟨rfl,rfl,by simp⟩) (hco:=fun x=>⟨zS x _,by simp,rfl⟩)
 repeat' (first|refine' ah|(refine ab p0 ?_)|(refine ab p1 ?_)|(refine ab p2 ?_))
 refine ag (ι:={p:Nat × Int × Int // p.1 <= W/\DevT a (am k) p.1 p.2.1/\AttW a (am k) W p.2.1}) [4,6,7,8,10] [4] [] ⟨(0,0,0),π _,⟨Int.le_refl 0,τ,ν,.inl rfl⟩,.inl rfl⟩ (fun ⟨(j,_),_⟩=>W - j) (fun ⟨(j,_),_⟩=>[(11,.int .i64 j)])
  (fun ⟨(_,v,w),_⟩=>[(6,some (.box a.cells)),(7,some (.box (am k).cells)),(10,some (.box [.bool false,.int .i64 v,.int .i64 w]))]) ?_ ?_
 ·exact ⟨⟨rfl,rfl⟩,sq1,sq1⟩
 ·rintro ⟨⟨j,v,w⟩,hj,hv,hA⟩
  dsimp only at hj hv hA
  conv=>whnf
  by_cases hjl:(j:Int) < (W:Int)
  ·have q1:=b5 a qa.wf j ω
   have haw:=hfin j
   obtain ⟨r,⟨hr1,hr2,hr3⟩,q2⟩:=v9 k hk (a.at j) ω
   obtain ⟨n1,n2⟩:=hv.next mb (r:=r) ω hr2 (fun s hs=>hr3 s ω)
   by_cases hc:(r:Int) - (j:Int) > v
   ·have hn:=n1 hc
    have hA2:AttW a (am k) W ((r:Int) - (j:Int)):=.inr ⟨j,r - 1,ω,by have:=hv.pos;omega,hr3 (r - 1) (by have:=hv.pos;omega)⟩
    repeat' (first|(exact aK [] ⟨(j + 1,(r:Int) - (j:Int),(j:Int)),κ,hn,hA2⟩)|(refine aa (fun hb=>?_) (fun hb=>absurd hc hb);conv=>whnf)|(refine aa (fun hb=>?_) (fun hb=>absurd hjl hb);conv=>whnf)|refine' ah|(refine ab p4 ?_)|(refine ab q1 ?_)|(refine ab q2 ?_))
    all_goals try exact ariA
   ·have hn:=n2 hc
    repeat' (first|(exact aK [] ⟨(j + 1,v,w),κ,hn,hA⟩)|(refine aa (fun hb=>absurd hb hc) (fun hb=>?_);conv=>whnf)|(refine aa (fun hb=>?_) (fun hb=>absurd hjl hb);conv=>whnf)|refine' ah|(refine ab p4 ?_)|(refine ab q1 ?_)|(refine ab q2 ?_))
    all_goals try exact ariA
  ·obtain rfl:j = W:=ω
   repeat' (first|(refine aa (fun hb=>absurd hb hjl) (fun hb=>?_);conv=>whnf)|refine' ah|(refine ab p4 ?_))
   have hp:=hv.pos
   refine ae ⟨.ok (false,v,w),rfl,nofun,fun _=>⟨hp,fun t=>?_,?_⟩⟩
   ·dsimp only
    unfold cutF
    rcases ζ k t with g | g
    ·rw [if_neg ω,cb hk]
     unfold inf
     split<;>omega
    ·rw [if_pos g,<- qa.same]
     exact hv.le t ω
   ·rcases hA with h | ⟨t,s,h0,h1,h2⟩
    ·exact .inl κ
    ·by_cases hv0:v = 0
     ·exact .inl κ
     refine .inr ⟨t,s,h1,?_⟩
     unfold cutF
     rcases ζ k t with g | g
     ·exfalso
      rw [cb hk,if_neg ω] at h2
      have:=hfin t
      unfold inf at h2
      omega
     ·rw [if_pos g,<- qa.same]
      exact h2
theorem lt2n {p:Nat -> Prop} (h0:p 0) (h1:p 1):∀ i,i < 2 -> p i:=fun i hi=>by
 match i with
 | 0=>exact h0
 | 1=>exact h1
 | i + 2=>omega
theorem AT {c d:Curve} (hc:Gd c) (hd:Gd d) {θ:Int} {z:Curve} (h:dP c d θ = .ok z):Gd z:=by
 unfold dP at h
 rw [dif_pos ⟨hc,hd⟩] at h
 have h1:=(Classical.choose_spec (gm c d hc hd θ)).1
 rw [h] at h1
 have h2:=h1 hc hd
 split at h2
 ·obtain ⟨a,b,_,_,h3⟩:=h2
  split at h3
  ·exact h3.gd fun s t hst=>gR hst
  ·cases h3
 ·cases h2
theorem CQ {n:Net} {d:List (List Int)} (h:NetOk n) (hw:NamesOk n) (hd:ShapeOk n d) {i k:Nat} (hi:i < n.flows.length) (hk:k < (n.flows.getD i default).route.length) {θ:Int}:(∀ z,lS n d i k θ = .ok z -> Gd z)/\∀ e,lS n d i k θ = .error e -> e ≠ 0:=by
 have hfo:FlowOk n.lines (n.flows.getD i default):=h.flow _ (by simp [hi])
 have h1:=hfo.lines _ (a8 (l:=(n.flows.getD i default).route) (i:=k) hk)
 have h2:=hfo.cls2 _ (a8 (l:=(n.flows.getD i default).route) (i:=k) hk)
 have h0:=hfo.cls
 unfold lS
 rcases ho:cY n d i ((n.flows.getD i default).route.getD k 0) (n.flows.getD i default).class_ with e | o
 ·exact ⟨fun z hz=>(by cases hz),fun e he=>by cases he;exact l6 h hd ho⟩
 ·have go:=jd h hw hd hi hk ho
  dsimp only
  rcases hb:offX n d ((n.flows.getD i default).route.getD k 0) (n.flows.getD i default).class_.toNat with e | b
  ·exact ⟨fun z hz=>(by cases hz),fun e he=>by cases he;exact AQ h hw hd h1 ω hb⟩
  ·have gb:=v8 h hw hd h1 ω hb
   exact ⟨fun z hz=>AT gb go hz,fun e he=>AP gb go he⟩
theorem je {n:Net} {d:List (List Int)} (h:NetOk n) (hw:NamesOk n) (hd:ShapeOk n d) {i k:Nat} (hi:i < n.flows.length) (hk:k < (n.flows.getD i default).route.length) {c:Int} :
  (∀ z,be n d i k c = .ok z -> Gd z \/ ∃ q:Nat,q <= 398/\z = am q)/\∀ e,be n d i k c = .error e -> e ≠ 0:=by
 obtain ⟨r1,r2⟩:=CQ h hw hd hi hk (θ:=c - 1)
 unfold be
 split
 ·exact ⟨fun z hz=>(by cases hz),fun e he=>by cases he;decide⟩
 ·split
  ·exact ⟨fun z hz=>.inl (r1 z hz),r2⟩
  ·split
   ·exact ⟨fun z hz=>(by cases hz),fun e he=>by cases he;decide⟩
   ·unfold rJ
    split
    ·exact ⟨fun z hz=>by cases hz;exact .inr ⟨_,ω,rfl⟩,fun e he=>by cases he⟩
    ·exact ⟨fun z hz=>(by cases hz),fun e he=>by cases he;decide⟩
def sngR:Except Int Int -> AV
 | .ok v=>.tup [.int .i64 v,.int .i64 0]
 | .error e=>.tup [.int .i64 0,.int .i64 e]
def PlcOk (n:Net) (i k:Int):Prop:=0 <= i/\i < n.flows.length/\0 <= k/\k < (n.flows.getD i.toNat default).route.length
def RBad (n:Net) (d:List (List Int)) (i k e:Int):Prop:=(e = 6/\q0d 55 [n.av,bt d] (.bool false)/\q0d 52 [n.av,bt d] (.bool false)) \/
 (e = 2/\q0d 55 [n.av,bt d] (.bool true)/\q0d 73 [n.av,.int .i64 i,.int .i64 k] (.bool true)/\q0d 52 [n.av,bt d] (.bool true)/\(n.flows.length <= 1000/\∀ j:Nat,j < n.flows.length -> (n.flows.getD j default).route.length <= 1000)/\¬ PlcOk n i k)
section
variable {n:Net} {d:List (List Int)} {i k e:Int} (he:e ≠ 0) (p:q0d 85 [n.av,bt d,.int .i64 i,.int .i64 k] (.tup [.int .i64 0,.int .i64 e])) (q:RBad n d i k e)
include he p
end
end Go.Nc