/- Parts. -/
import Derived.Test.YtbdkgpcdkalfdaaGreatNdRBC
namespace Go.Nc
open Go.Proofs.Tryz
open Go.Proofs
set_option maxHeartbeats 8000000
def PK:Except Int Curve->Int×LObj->Prop
 |.ok z,x=>x=(0,.box z.cells)
 |.error e,x=>x.1=e/\e≠0/\eu [] x.2/\x.2.live=true
noncomputable def E5(n:Net)(d:Xa)(i:Nat)(L:Int)(s:Curve)(j:Int):Except Int Curve:=if j=i then .ok s else bP n d L s j
noncomputable def dK(n:Net)(d:Xa)(i:Nat)(L C:Int):Except Int Curve:=dk (E5 n d i L) (ao 0) (l9 n L C)
def yn(n:Net)(d:Xa)(i:Nat)(L:Int)(W:List Int)(R:Except Int Curve)(j:Nat)(x:Int×LObj):Prop :=
 eu [] x.2/\x.2.live=true/\((x.1=0/\∃z:Curve,x.2=.box z.cells/\dk (E5 n d i L) z (W.drop j)=R)\/(x.1≠0/\R=.error x.1))
theorem B5(n:Net)(d:Xa)(h:NetOk n)(k:ShapeOk n d)(i j:Nat)(L:Int)(c:j<n.flows.length)(l:j≠i)(m:0<=bG L (n.flows.getD j default).route 0/\bG L (n.flows.getD j default).route 0<(n.flows.getD j default).route.length)(s:Curve) :
  ∃x:Int×LObj,PK (bP n d L s j) x/\bx 213 (K2 j) (Kb n d i L 0 (.box s.cells)) (.tup []) (Kb n d i L x.1 x.2):=by
 have H:FlowOk n.lines (n.flows.getD j default):=h.flow _ (by simp[c]);have g:=H.ne;have r:=l5 n j L c Z;obtain⟨q,p⟩:=hZ n d h k j (bG L (n.flows.getD j default).route 0).toNat c Z;have E:dR n d L j=hU (n.flows.getD j default) (cA d (n.flows.getD j default) (bG L (n.flows.getD j default).route 0).toNat):=by unfold dR;rw[β]
 rw[<-E]at q p;rw[(Z:(((bG L (n.flows.getD j default).route 0).toNat:Nat):Int)=bG L (n.flows.getD j default).route 0)]at p;have hcl:=pB n d i L 0 (o:=.box s.cells) rfl;unfold bP;rcases hb:dR n d L j with e|a
 .rw[hb]at q p;have f:e=5\/e=3:=q;refine⟨(e,.box s.cells),⟨rfl,Z,rfl,rfl⟩,?_⟩;have hco:=pB n d i L e (o:=.box s.cells) rfl;refine ee func213 ntmps213 results213 (λw I b=>?_) (hcl:=⟨rfl,rfl,rfl,hcl,hco,rfl⟩);repeat'(first|refine' ak|(refine bu ⟨Θ,rfl,rfl,rfl,rfl,rfl,rfl,trivial⟩))
  all_goals(exfalso;omega)
 .rw[hb]at p;have P:=Ds s a;dsimp only;rcases hs:y1 s a with e|z
  .rw[hs]at P;have f:=bn (lO (hs▸sx s a));refine⟨(e,.box [.nils,J 0,J 0]),⟨rfl,f,rfl,rfl⟩,?_⟩;have hco:=pB n d i L e (o:=.box [.nils,J 0,J 0]) rfl;refine ee func213 ntmps213 results213 (λw I b=>?_) (hcl:=⟨rfl,rfl,rfl,hcl,hco,rfl⟩);repeat'(first|refine' ak|(refine bu ⟨Θ,rfl,rfl,rfl,rfl,rfl,rfl,trivial⟩))
   all_goals(exfalso;omega)
  .rw[hs]at P;refine⟨(0,.box z.cells),rfl,?_⟩;have hco:=pB n d i L 0 (o:=.box z.cells) rfl;refine ee func213 ntmps213 results213 (λw I b=>?_) (hcl:=⟨rfl,rfl,rfl,hcl,hco,rfl⟩);repeat'(first|refine' ak|(refine bu ⟨Θ,rfl,rfl,rfl,rfl,rfl,rfl,trivial⟩))
   all_goals(exfalso;omega)
theorem B6(n:Net)(d:Xa)(h:NetOk n)(Q:ShapeOk n d)(i k:Nat)(S:i<n.flows.length)(V:k<(n.flows.getD i default).route.length) :
  ∃x,x=dK n d i ((n.flows.getD i default).route.getD k 0) (n.flows.getD i default).class_/\q0e 154 [n.av,aF d,J i,J k] (ax x):=by
 have p0:=mQ n d h Q i k S V;have D:FlowOk n.lines (n.flows.getD i default):=h.flow _ (by simp[S]);have hfl:=h.flen;have hm:=a9 (l:=(n.flows.getD i default).route) (i:=k) V;have N:=D.lines _ hm;have X:∀j:Nat,j<n.flows.length->(n.flows.getD j default).route.length<=1000:=λj s=>by
  have:=(h.flow (n.flows.getD j default) (by rw[γ,υ s];exact List.getElem_mem _)).ne;omega
 have p1:=cW n ((n.flows.getD i default).route.getD k 0) (n.flows.getD i default).class_ Z X;have p2:=rZ n ((n.flows.getD i default).route.getD k 0) Z X;obtain⟨L,eL⟩:∃L,L=(n.flows.getD i default).route.getD k 0:=⟨_,rfl⟩;rw[<-eL]at p0 p1 p2 N⊢;obtain⟨C,w⟩:∃C,C=(n.flows.getD i default).class_:=⟨_,rfl⟩;rw[<-w];obtain⟨W,E⟩:∃W,W=l9 n L C:=⟨_,rfl⟩;obtain⟨R,K⟩:∃R,R=dK n d i L C:=⟨_,rfl⟩;have A:R=dk (E5 n d i L) (ao 0) W:=by rw[K,E];rfl
 rw[<-K];have hW:∀j:Nat,j<W.length->0<=W.getD j 0/\W.getD j 0<n.flows.length/\0<=bG L (n.flows.getD (W.getD j 0).toNat default).route 0:=λj s=>pC (L:=L) (c:=C) (by rw[<-E];exact a9 s);have hWl:W.length<=1000:=by
  rw[E,l9];split
  .have:=cB n L n.flows.length;unfold fC;omega
  .have N:=ir n C (fC n L) (fC n L).length;have h2:=cB n L n.flows.length;unfold a8 fC at *;omega
 refine dp func154 ntmps154 results154 ?_;repeat'(first|refine' aj|fail)
 all_goals try first|omega|(simp only[β]at *;omega)
 all_goals
  refine⟨?_⟩;refine az [8,11,12,13] [4,5,6,8,10,11] [] [(51,c4 W),(52,J W.length),(53,J 0)] [(12,some (.box [.osl 29 1,J 1,J 0])),(29,some (.arr 1 1 (λ_=>[J 0]) 3))] ⟨⟨rfl,rfl⟩,?_,?_⟩ ?_
  .skip;all_goals((refine' subP)<;>first|exact fl rfl (bV rfl)|exact bt)
  .skip;all_goals((refine' subP)<;>first|exact Ξ (congrArg c4 (by rw[E,l9,if_pos ‹_›]))|exact Ξ (congrArg c4 (by rw[E,l9,if_neg ‹_›,w]))|exact Γ (congrArg (λl:List Int=>(l.length:Int)) (by rw[E,l9,if_pos ‹_›]))|exact Γ (congrArg (λl:List Int=>(l.length:Int)) (by rw[E,l9,if_neg ‹_›,w]))|exact bt)
  conv=>whnf
  refine a7 29 rfl rfl (λ_ _=>rfl) ?_ ?_ ?_
  .all_goals try refine' frzZ
  .all_goals try refine' frzZ
  conv=>whnf
  refine(ae (ι:={p:Nat×Int×LObj//p.1<=W.length/\yn n d i L W R p.1 p.2}) [8,11,12,13,51,52] [4,5,6,8,10] [] ⟨(0,0,.box (ao 0).cells),χ _,rfl,rfl,.inl ⟨rfl,ao 0,rfl,A.symm⟩⟩ (λ⟨(j,_,_),_⟩=>W.length-j) (λ⟨(j,_,_),_⟩=>[(53,J j)]) (λ⟨(_,e,o),_⟩=>[(11,some (.box [J e])),(12,some o)]) ?_ ?_).good
  .refine⟨⟨rfl,rfl⟩,?_,?_⟩;all_goals((refine' subP)<;>first|exact ObLe.box (.cons (kd rfl (bV rfl)) (.cons Θ (.cons Θ .nil)))|exact bt)
  .rintro⟨⟨j,e,o⟩,s,F,H,b⟩;conv=>whnf
   repeat(refine fg ?_;conv=>whnf)
   dsimp only at s F H b;refine aa (λhb=>?_) (λhb=>?_)<;>conv=>whnf
   .have t:j<W.length:=Z;obtain⟨w1,w2,G⟩:=hW j t;have f:=bS (l:=W) (j:=j) t;obtain⟨q,B⟩:=ζ w1;rw[B]at w2 G f;rw[β]at G;by_cases hs:e≠0\/q=i
    .have P:=Bi n d i q L e o F H hs;have u:yn n d i L W R (j + 1) (e,o):=⟨F,H,by
      rcases b with⟨r,z,g,a⟩|r
      .refine .inl ⟨r,z,g,?_⟩;rw[f]at a;unfold dk E5 at a;rw[if_pos Z]at a;exact a
      .exact .inr r⟩
     unfold K2 at P;rw[<-B]at P;repeat'(first|(exact aI [] ⟨(j+1,e,o),κ,u⟩)|refine' b7|(refine vG P ⟨rfl,rfl,rfl,rfl,rfl,rfl,trivial⟩ ⟨trivial,trivial,trivial,trivial,trivial,trivial,trivial⟩ ?_;conv=>whnf))
     all_goals try exact bs
    .have m:e=0:=Z;subst m;rcases b with⟨_,z,g,a⟩|⟨r,_⟩;rotate_left
     .exact absurd rfl r
     change o=LObj.box z.cells at g;subst g;obtain⟨⟨I,O⟩,v,P⟩:=B5 n d h Q i q L Z Z ⟨G,by have:=dI (x:=L) (l:=(n.flows.getD q default).route) (Int.le_refl 0);omega⟩ z;dsimp only at P;rw[f]at a;unfold dk E5 at a;rw[if_neg Z]at a;have u:yn n d i L W R (j+1) (I,O):=by
      rcases hst:bP n d L z q with e'|y
      .rw[hst]at v a;obtain⟨rfl,x1,x2,x3⟩:=v;exact⟨x2,x3,.inr ⟨x1,a.symm⟩⟩
      .rw[hst]at v a;cases v;exact⟨rfl,rfl,.inl ⟨rfl,y,rfl,a⟩⟩
     have c1:eu [] O:=u.1;have c2:O.live=true:=u.2.1;unfold K2 at P;rw[<-B]at P;repeat'(first|(exact aI [] ⟨(j+1,I,O),κ,u⟩)|refine' b7|(refine vG P ⟨rfl,rfl,rfl,rfl,rfl,rfl,trivial⟩ ⟨trivial,trivial,trivial,trivial,trivial,trivial,trivial⟩ ?_;conv=>whnf))
     all_goals try exact bs
   .have ej:j=W.length:=Z;rcases b with⟨m,z,g,a⟩|⟨m,hR⟩
    .change o=LObj.box z.cells at g;change e=0 at m;subst g;subst m;rw[ej,List.drop_length]at a;repeat'(first|refine' aj|fail)
     exact ag ⟨.ok z,rfl,a⟩
    .skip;repeat'(first|(refine ϑ m λhb=>?_;conv=>whnf)|refine' aj|fail)
     exact ag ⟨.error e,rfl,hR.symm⟩
theorem uu(n:Net)(h:NetOk n)(i k:Nat)(b:i<n.flows.length)(c:k<(n.flows.getD i default).route.length):q0e 73 [n.av,J i,J k] (.bool false):=by
 have H:=h.flen;refine ee func73 ntmps73 results73 λw I a=>?_;repeat'(first|refine' ak|fail)
 all_goals try simp only[β]at *
 all_goals first|omega|exact Ξ (by rw[decide_eq_false Z];rfl)|(exfalso;omega)|exact ε
theorem qu(n:Net)(d:Xa)(h:NetOk n)(N:NamesOk n)(A:ShapeOk n d)(i k:Nat)(hi:i<n.flows.length)(hk:k<(n.flows.getD i default).route.length) :
  ∃x,(x=dK n d i ((n.flows.getD i default).route.getD k 0) (n.flows.getD i default).class_/\∀z,x=.ok z->Gd z)/\q0e 164 [n.av,aF d,J i,J k] (ax x):=by
 have hfl:=h.flen;have I:=cZ h;have t:FlowOk n.lines (n.flows.getD i default):=h.flow _ (by simp[hi]);have h1:=t.lines _ (a9 (l:=(n.flows.getD i default).route) (i:=k) hk);obtain⟨_,rfl,p9⟩:=cb n d h N A;have p8:=uu n h i k hi hk;have p0:=mT;obtain⟨L,E⟩:∃L,L=(n.flows.getD i default).route.getD k 0:=⟨_,rfl⟩;obtain⟨C,X⟩:∃C,C=(n.flows.getD i default).class_:=⟨_,rfl⟩;rw[<-E]at h1⊢;rw[<-X];have p1:q0e 72 [n.av,J ((n.flows.getD i default).route.getD k 0),J (n.flows.getD i default).class_] (c4 (a8 n L C)):=by rw[E,X];exact c5 n _ _ Z I
 have O:q0e 137 [n.av,J ((n.flows.getD i default).route.getD k 0)] (c4 (fC n L)):=by rw[E];exact pH n _ Z I
 obtain⟨W,m⟩:∃W,W=l9 n L C:=⟨_,rfl⟩;obtain⟨R,eR⟩:∃R,R=dK n d i L C:=⟨_,rfl⟩;have D:dk (E5 n d i L) (ao 0) W=R:=by rw[eR,m];rfl
 rw[<-eR];have hW:∀j:Nat,j<W.length->0<=W.getD j 0/\W.getD j 0<n.flows.length/\0<=bG L (n.flows.getD (W.getD j 0).toNat default).route 0:=λj G=>pC (L:=L) (c:=C) (by rw[<-m];exact a9 G);have hWl:W.length<=1000:=by
  rw[m,l9];split
  .have:=cB n L n.flows.length;unfold fC;omega
  .have:=da n L C;omega
 refine dp func164 ntmps164 results164 ?_;repeat'(first|refine' aj|refine ab (O) ?_)
 all_goals try first|omega|(simp only[β]at *;omega)
 all_goals
  refine⟨?_⟩;refine az [1,2,4,8,11] [4,8,11] [] [(10,J L),(12,c4 W),(13,J 0)] [] ⟨⟨rfl,rfl⟩,?_,?_⟩ ?_
  .skip;all_goals exact bt
  .skip;all_goals((refine' subP)<;>first|exact Γ E.symm|exact Ξ (congrArg c4 (by rw[m,l9,if_pos (by rw[E];assumption)]))|exact Ξ (congrArg c4 (by rw[m,l9,if_neg (by rw[E];assumption)]))|exact bt)
  conv=>whnf
  refine(ae (ι:={p:Nat×Curve//p.1<=W.length/\Gd p.2/\dk (E5 n d i L) p.2 (W.drop p.1)=R}) [1,2,4,8,10,11,12] [4,8] [] ⟨(0,ao 0),χ _,aR Z,D⟩ (λ⟨(j,_),_⟩=>W.length-j) (λ⟨(j,_),_⟩=>[(13,J j)]) (λ⟨(_,s),_⟩=>[(11,some (.box s.cells))]) ?_ ?_).good
  .exact⟨⟨rfl,rfl⟩,bt,bt⟩
  .rintro⟨⟨j,s⟩,G,f,S⟩;conv=>whnf
   repeat(refine fg ?_;conv=>whnf)
   dsimp only at G f S;refine aa (λhb=>?_) (λhb=>?_)<;>conv=>whnf
   .have v:j<W.length:=Z;obtain⟨w1,w2,Q⟩:=hW j v;have K:=bS (l:=W) (j:=j) v;rw[K,jS]at S;obtain⟨q,g⟩:=ζ w1;have er:W.getD (j:Int).toNat 0=W.getD j 0:=rfl;rw[g]at w2 Q S;rw[β]at Q;have hq:q<n.flows.length:=Z;by_cases hs:q=i
    .have H:E5 n d i L s q=.ok s:=by unfold E5;rw[if_pos Z]
     rw[H]at S;repeat'(first|(exact aI [] ⟨(j+1,s),κ,f,S⟩)|(refine U Z λhb=>?_;conv=>whnf)|refine' aj|fail)
     all_goals try exact bs
    .have e1:E5 n d i L s q=bP n d L s q:=by unfold E5;rw[if_neg Z]
     rw[e1]at S;have p2:=nX n q L hq Z (I q hq);have hlt2:=dI (x:=L) (l:=(n.flows.getD q default).route) (Int.le_refl 0);have F:FlowOk n.lines (n.flows.getD q default):=h.flow _ (by simp[hq]);obtain⟨o,⟨ho,w⟩,_⟩:=kM n d h N A q (bG L (n.flows.getD q default).route 0).toNat hq Z;have P:=lV n d h N A q (bG L (n.flows.getD q default).route 0).toNat hq Z;rw[ho]at w;have V:dR n d L q=hU (n.flows.getD q default) (cA d (n.flows.getD q default) (bG L (n.flows.getD q default).route 0).toNat):=by unfold dR;rw[β]
     have a:=λe r=>bn (gC h A (L:=L) (s:=s) (j:=q) hq Q (e:=e) r);rw[(Z:(((bG L (n.flows.getD q default).route 0).toNat:Nat):Int)=bG L (n.flows.getD q default).route 0),<-V]at P;rw[<-g]at p2 P;have b:¬W.getD j 0=(i:Int):=Z;rcases hx:dR n d L q with e|z
     .have H:bP n d L s q=.error e:=by unfold bP;rw[hx]
      have r:=a e H;rw[g]at P;rw[hx,<-g]at P;rw[H]at S;repeat'(first|(refine M b λhb=>?_;conv=>whnf)|(refine ϑ r λhb=>?_;conv=>whnf)|refine' aj|fail)
      all_goals try first|omega|exact ag ⟨.error e,rfl,S,nofun⟩
     .have B:Gd z:=zO F w (by rw[<-V];exact hx);obtain⟨zw,zl,_⟩:=cY B;obtain⟨sw,sl,_⟩:=cY f;obtain⟨y,⟨_,hy⟩,p4⟩:=jP s z sw sl zw zl;have H:bP n d L s q=y:=by
       unfold bP;rw[hx];dsimp only;rw[yl f B,hy.eq f B]
      rw[g]at P;rw[hx,<-g]at P;rw[H]at S a;rcases y with e|u
      .have r:=a e rfl;repeat'(first|(refine M b λhb=>?_;conv=>whnf)|(refine ϑ r λhb=>?_;conv=>whnf)|refine' aj|fail)
       all_goals try first|omega|exact ag ⟨.error e,rfl,S,nofun⟩
      .have ug:=(hy.gd f B).1;repeat'(first|(exact aI [] ⟨(j+1,u),κ,ug,S⟩)|(refine M b λhb=>?_;conv=>whnf)|refine' aj|fail)
       all_goals try exact bs
   .have ej:W.drop j=[]:=List.drop_eq_nil_of_le Z;rw[ej]at S;repeat'(first|refine' aj|fail)
    exact ag ⟨.ok s,rfl,S,λz e=>by cases e;exact f⟩
def rS(D:Nat->Int)(θ u:Nat):Int:=if u<=θ then 0 else max 0 (D u)
theorem II(D:Nat->Int)(θ u:Nat):0<=rS D θ u:=by unfold rS;split<;>omega
theorem yo(D:Nat->Int)(θ u:Nat):∃w,u<=w/\∀v,u<=v->rS D θ w<=rS D θ v:=by
 have key:∀(n w:Nat),u<=w->(rS D θ w).toNat<=n->∃w,u<=w/\∀v,u<=v->rS D θ w<=rS D θ v:=by
  intro n;induction n with
  |zero=>exactλw a h=>⟨w,a,λv _=>by have:=II D θ v;omega⟩
  |succ n ih=>
   intro w a h;by_cases b:∃v,u<=v/\rS D θ v<rS D θ w
   .obtain⟨v,H,d⟩:=b;have:=II D θ v;exact ih v H Z
   .exact ⟨w,a,fun v H=>by
     by_cases c:rS D θ v<rS D θ w
     .exact absurd ⟨v,H,c⟩ b
     .omega⟩
 exact key _ u (π u) (π _)
noncomputable def sR(D:Nat->Int)(θ u:Nat):Int:=rS D θ (Classical.choose (yo D θ u))
theorem gV{D:Nat->Int}{θ u v:Nat}(h:u<=v):sR D θ u<=rS D θ v:=(Classical.choose_spec (yo D θ u)).2 v h
theorem iL(D:Nat->Int)(θ u:Nat):∃w,u<=w/\sR D θ u=rS D θ w:=⟨_,(Classical.choose_spec (yo D θ u)).1,rfl⟩
theorem qv(D:Nat->Int)(θ u:Nat):0<=sR D θ u:=II ..
theorem iM{D:Nat->Int}{θ u v:Nat}(h:u<=v):sR D θ u<=sR D θ v:=by
 obtain⟨w,H,e⟩:=iL D θ v;rw[e];exact gV (Nat.le_trans h H)
theorem DO{D:Nat->Int}{θ u:Nat}(h:u<=θ):sR D θ u=0:=by
 have H:=gV (D:=D) (θ:=θ) (π u);have a:=qv D θ u;unfold rS at H;rw[if_pos h]at H;omega
theorem w6{D E:Nat->Int}{θ:Nat}(h:∀u,θ<u->D u=E u)(u:Nat):sR D θ u=sR E θ u:=by
 have e:∀v,rS D θ v=rS E θ v:=λv=>by
  unfold rS;split
  .rfl
  .rw[h v Z]
 obtain⟨w,a,b⟩:=iL D θ u;obtain⟨v,H,c⟩:=iL E θ u;have:=gV (D:=D) (θ:=θ) H;have:=gV (D:=E) (θ:=θ) a;rw[e]at *;omega
theorem GB{D:Nat->Int}{θ:Nat}(h:∀u,∃w,u<=w/\D w<=0)(u:Nat):sR D θ u=0:=by
 obtain⟨w,a,b⟩:=h u;have H:=gV (D:=D) (θ:=θ) a;have c:=qv D θ u;unfold rS at H;split at H<;>omega
theorem uv{D:Nat->Int}{θ F P:Nat}{a:Int}(i:θ<F)(h:∀u,F<=u->D (u+P)=D u+a)(b:∀u,F<=u->0<=D u)(u:Nat)(j:F<=u):sR D θ (u+P)=sR D θ u+a:=by
 have e:∀w,F<=w->rS D θ w=D w:=λw H=>by
  have:=b w H;unfold rS;rw[if_neg Z];omega
 obtain⟨w,H,E⟩:=iL D θ u;obtain⟨v,k,f⟩:=iL D θ (u+P);have c:=gV (D:=D) (θ:=θ) (Z:u+P<=w+P);have g:=gV (D:=D) (θ:=θ) (Z:u<=v-P);have d:=h (v-P) Z;rw[(Z:v-P+P=v)]at d;rw[e _ Z]at *;rw[h w Z]at c;omega
theorem w7{D:Nat->Int}{F P:Nat}{c:Int}(e:1<=P)(b:∀u,F<=u->D (u+P)=D u+c)(H:0<=c)(a:∀u,F<=u->u<F+P->0<=D u)(u:Nat)(f:F<=u):0<=D u:=by
 rcases ξ u (F+P)with h|h
 .exact a u f h
 .have g:=w7 e b H a (u-P) Z;have d:=b (u-P) Z;rw[(Z:u-P+P=u)]at d;omega
termination_by u
theorem DP{D:Nat->Int}{θ S P N u:Nat}{b m:Int}(q:1<=P)(f:∀u,S<=u->D (u+P)=D u+b)(j:0<=b)(k:θ<u)(p:S+P<=N)(g:u+P<=N)(c:∀w,u<=w->w<N->m<=D w)(d:∃w,u<=w/\w<N/\D w=m):sR D θ u=max 0 m:=by
 have H:∀w,u<=w->m<=D w:=by
  intro w;induction w using Nat.strongRecOn with
  |ind w ih=>
   intro i;rcases ξ w N with h|h
   .exact c w i h
   .have n:=ih (w-P) Z Z;have e:=f (w-P) Z;rw[(Z:w-P+P=w)]at e;omega
 obtain⟨w,W,r,s⟩:=d;have a:=gV (D:=D) (θ:=θ) W;obtain⟨v,l,V⟩:=iL D θ u;have o:=H v l;unfold rS at a V;rw[if_neg Z]at a V;omega
theorem qw{D:Nat->Int}{θ:Nat}(f:sR D θ 400=0)(d:∃u,0<sR D θ u):rl (sR D θ):=by
 intro s p i h H _ _ _;obtain⟨u,g⟩:=d;have z:∀t,t<=400->sR D θ t=0:=λt c=>by
  have:=iM (D:=D) (θ:=θ) c;have:=qv D θ t;omega
 have b:=h.2 s (π s);rw[z _ H,z s Z]at b;have a:=aZ h.2 u s (π s);rw[z s Z,<-(Z:(0:Int)=i),Int.mul_zero]at a;have e:=iM (D:=D) (θ:=θ) (show u<=s+u*p by have:=Nat.le_mul_of_pos_right u h.1;omega);omega
theorem yp{D:Nat->Int}{θ S P:Nat}{b:Int}(k:1<=P)(l:θ<S)(d:∀u,S<=u->D (u+P)=D u+b)(f:0<b):∃u,0<sR D θ u:=by
 have lo:∀n,∃X:Int,∀j,j<n->X<=D (S+j):=by
  intro n;induction n with
  |zero=>exact⟨0,λj h=>Z⟩
  |succ n ih=>
   obtain⟨X,a⟩:=ih;refine⟨min X (D (S+n)),λj m=>?_⟩;rcases ξ j n with h|h
   .have:=a j h;omega
   .obtain rfl:j=n:=Z;omega
 obtain⟨X,a⟩:=lo P;obtain⟨K,E⟩:∃K:Nat,K=(1-X).toNat:=⟨_,rfl⟩;have e:∀u,S+K*P<=u->1<=D u:=by
  intro u;induction u using Nat.strongRecOn with
  |ind u ih=>
   intro o;rcases ξ u (S+K*P+P)with h|h
   .have c:=aZ d K (u-K*P) Z;rw[(Z:u-K*P+K*P=u)]at c;have H:=a (u-K*P-S) Z;rw[(Z:S+(u-K*P-S)=u-K*P)]at H;have i:(K:Int)*1<=K*b:=Int.mul_le_mul_of_nonneg_left Z Z;omega
   .have c:=ih (u-P) Z Z;have H:=d (u-P) Z;rw[(Z:u-P+P=u)]at H;omega
 refine⟨S+K*P,?_⟩;obtain⟨w,W,g⟩:=iL D θ (S+K*P);have:=e w W;rw[g];unfold rS;rw[if_neg Z];omega
def OR(b o:Curve)(θ:Nat):AV:=.agg [c4 b.vals,J b.per,J b.inc,c4 o.vals,J o.per,J o.inc,J θ]
def sa(b o:Curve)(θ:Nat)(u:Nat):Int:=b.at u-o.at ((u-θ:Nat):Int)
theorem DQ{b o:Curve}(hb:WfC b)(f:FinC b)(h:WfC o)(F:FinC o)(θ u:Nat)(c:θ<=u)(H:u<=1100000):q0e 219 [OR b o θ,J u] (J (sa b o θ u)):=by
 have P:=cu b hb u Z;have p:=cu o h (u-θ) Z;have b1:=b6 hb f u;have B:=b6 h F (u-θ);have e:((u-θ:Nat):Int)=(u:Int)-θ:=Z;unfold sa;rw[e]at p B⊢;have n:¬b.at u=4611686018427387904:=Z;have n2:¬o.at ((u:Int)-θ)=4611686018427387904:=Z;refine ee func219 ntmps219 results219 λw I a=>?_;repeat'(first|(refine M n2 λhb=>?_;conv=>whnf)|(refine M n λhb=>?_;conv=>whnf)|refine' ak|fail)
 all_goals first|exact Θ|exact bs
def z3(D:Nat->Int)(F:Nat):Nat->Int
 |0=>4611686018427387904
 |k+1=>min (z3 D F k) (D (F+k))
theorem j4{b o:Curve}(hb:WfC b)(f:FinC b)(H:WfC o)(a:FinC o)(θ F N:Nat)(c:θ<=F)(e:F+N<=1100000):∃x:Int,x=z3 (sa b o θ) F N/\q0e 217 [OR b o θ,J F,J N] (J x):=by
 refine dp func217 ntmps217 results217 ?_;repeat'(first|refine' aj|fail)
 all_goals try exact bs
 refine ae (ι:={j:Nat//j<=N}) [1,2,3] [3] [] ⟨0,χ _⟩ (λ⟨j,_⟩=>N-j) (λ⟨j,_⟩=>[(7,J (z3 (sa b o θ) F j)),(8,J ((F:Int)+j))]) (λ_=>[]) ?_ ?_
 .exact⟨⟨rfl,rfl⟩,bt,bt⟩
 .rintro⟨j,d⟩;conv=>whnf
  by_cases h:(F:Int)+j<F+N
  .have p:=DQ hb f H a θ (F+j) Z Z;rw[(Z:((F+j:Nat):Int)=(F:Int)+j)]at p;repeat'(first|(exact aI [] ⟨j+1,Z⟩)|(refine U h λhb=>?_;conv=>whnf)|refine' aj|fail)
   all_goals try exact bs
  .obtain rfl:j=N:=Z;repeat'(first|(refine M h λhb=>?_;conv=>whnf)|refine' aj|fail)
   all_goals try exact bs
   exact ag ⟨_,rfl,rfl⟩
def Po(c d:Curve)(θ:Nat)(u:Nat):Int:=c.at u-d.at ((u-θ:Nat):Int)
def kw(c d:Curve)(θ:Int)(x:Except Int Curve):Prop:=Gd c->Gd d->
 if 0<=θ/\θ<=1048576 then∃a b,CanQ (λt:Nat=>c.at t) (.ok a)/\CanQ (λt:Nat=>d.at t) (.ok b)/\if comP a b<=120 then CanQ (sR (Po c d θ.toNat) θ.toNat) x else x=.error 3
 else x=.error 2
theorem DR(F:Nat->Int)(N t:Nat)(h:t<N):bx 220 [J t,.lptr 901 0] [(901,.box [.isl N 1 (λi=>[J (F i)])])] (J (F t)) [(901,.box [.isl N 1 (λi=>[J (F i)])])]:=by
 refine ee func220 ntmps220 results220 (λw I a=>?_) (hcl:=⟨rfl,rfl,rfl,bN rfl,bN rfl,rfl⟩);repeat'(first|refine' gg|fail)
 all_goals first|exact Θ|rfl|exact bs
def iN(D:Nat->Int)(u X:Nat)(m:Int):Prop:=(∀w,u<=w->w<X->m<=D w)/\∃w,u<=w/\w<X/\D w=m
theorem oz{D:Nat->Int}{F:Nat}:∀n,1<=n->(∀w,F<=w->w<F+n->D w<=4611686018427387904)->iN D F (F+n) (z3 D F n)
 |1,_,h=>by
  have:=h F (π F) Z;have e:z3 D F 1=D F:=by show min 4611686018427387904 (D (F+0))=D F;rw[Nat.add_zero];omega
  rw[e];exact⟨λw H c=>by obtain rfl:w=F:=Z;exact Int.le_refl _,F,π F,Z,rfl⟩
 |n+2,_,h=>by
  obtain⟨H,w,c,d,f⟩:=oz (n+1) Z (λw a b=>h w a Z);have e:z3 D F (n+2)=min (z3 D F (n+1)) (D (F+(n+1))):=rfl;refine⟨λv a b=>?_,?_⟩
  .rcases ξ v (F+(n+1))with g|g
   .have:=H v a g;omega
   .obtain rfl:v=F+(n+1):=Z;omega
  .by_cases g:z3 D F (n+1)<=D (F+(n+1))
   .exact⟨w,c,Z,Z⟩
   .exact⟨F+(n+1),Z,Z,Z⟩
theorem iN.step{D:Nat->Int}{u X:Nat}{m:Int}(h:iN D (u+1) X m)(d:u<X):iN D u X (min m (D u)):=by
 obtain⟨H,w,e,c,f⟩:=h;refine⟨λv a b=>?_,?_⟩
 .rcases ξ u v with g|g
  .have:=H v g b;omega
  .obtain rfl:v=u:=Z;omega
 .by_cases g:m<=D u
  .exact⟨w,Z,c,Z⟩
  .exact⟨u,π u,d,Z⟩
def w8(G:Nat->Int)(u:Nat):Nat->List AV:=λi=>[J (bif Nat.blt u i then G i else 0)]
theorem B7{G:Nat->Int}{i u:Nat}{v:Int}(H:1<=u)(h:v=G u):(bif Nat.beq i u then[J v]else w8 G u i)=w8 G (u-1) i:=by
 subst h;unfold w8;by_cases e:i=u
 .subst e;rw[Nat.beq_refl,Nat.blt_eq.mpr (Z:i-1<i)];rfl
 .have E:Nat.beq i u=false:=Bool.eq_false_iff.2 λh=>e (Nat.eq_of_beq_eq_true h);rw[E];by_cases g:u<i
  .rw[Nat.blt_eq.mpr g,Nat.blt_eq.mpr (Z:u-1<i)];rfl
  .have a:Nat.blt u i=false:=Bool.eq_false_iff.2 λh=>g (Nat.blt_eq.mp h);have b:Nat.blt (u-1) i=false:=Bool.eq_false_iff.2 λh=>by have:=Nat.blt_eq.mp h;omega
   rw[a,b];rfl
theorem B8{G:Nat->Int}{u:Nat}(h:∀i,i<=u->G i=0)(i:Nat):w8 G u i=[J (G i)]:=by
 unfold w8;by_cases g:u<i
 .rw[Nat.blt_eq.mpr g];rfl
 .have e:Nat.blt u i=false:=Bool.eq_false_iff.2 λh=>g (Nat.blt_eq.mp h);rw[e,h i Z];rfl
theorem B9{G:Nat->Int}{u i:Nat}(h:i<=u):[J 0]=w8 G u i:=by
 unfold w8;have e:Nat.blt u i=false:=Bool.eq_false_iff.2 λg=>by have:=Nat.blt_eq.mp g;omega
 rw[e];rfl
structure ShF(D:Nat->Int)(k F l:Nat)(δ:Int):Prop where
 l1:1<=l
 kF:k<F
 rep:∀u,F<=u->D (u+l)=D u+δ
theorem ShF.flat{D:Nat->Int}{k F l:Nat}{a w:Int}(h:ShF D k F l a)(b:iN D F (F+l) w)(H:a<0\/(a=0/\w<=0)):CanQ (sR D k) (.ok (ao 0)):=by
 obtain⟨_,v,V,_,f⟩:=b;refine Np (GB λu=>?_);obtain⟨m,e⟩:∃m:Nat,m=u+(D v).toNat:=⟨_,rfl⟩;refine⟨v+m*l,by have:=Nat.le_mul_of_pos_right m h.l1;omega,?_⟩;rw[aZ h.rep m v V];rcases H with H|⟨H,d⟩
 .have c:(m:Int)*a<=m*(-1):=Int.mul_le_mul_of_nonneg_left Z Z;omega
 .rw[H,Int.mul_zero];omega
theorem ShF.pos{D:Nat->Int}{k F l:Nat}{a w:Int}(h:ShF D k F l a)(b:iN D F (F+l) w)(H:0<a\/(a=0/\0<w)):∃u,0<sR D k u:=by
 rcases H with H|⟨H,c⟩
 .exact yp h.l1 h.kF h.rep H
 .refine⟨F,?_⟩;rw[DP h.l1 h.rep Z h.kF (π _) (π _) b.1 b.2];omega
theorem ShF.lim{D:Nat->Int}{k F l:Nat}{a w:Int}(h:ShF D k F l a)(c:iN D F (F+l) w)(H:0<a\/(a=0/\0<w))(b:400<=k):CanQ (sR D k) (.error 3):=⟨rfl,qw (DO b) (h.pos c H)⟩
theorem ShF.neg{D:Nat->Int}{k F l fr:Nat}{a w:Int}(h:ShF D k F l a)(b:0<a)(c:400<=fr)(d:iN D fr (fr+l) w)(f:w<0):CanQ (sR D k) (.error 3):=by
 obtain⟨_,v,V,_,g⟩:=d;refine⟨rfl,qw ?_ (yp h.l1 h.kF h.rep b)⟩;have H:=gV (D:=D) (θ:=k) (Z:400<=v);have e:=qv D k 400;unfold rS at H;split at H<;>omega
theorem i5(c d:Curve)(hc:Gd c)(hd:Gd d)(θ:Int):∃x,kw c d θ x/\q0e 156 [c.av,d.av,J θ] (ax x):=by
 obtain⟨y,⟨hy,_,hN⟩,p1⟩:=ct c;obtain⟨z,⟨hz,_,hM⟩,p2⟩:=ct d;obtain⟨a,rfl⟩:=bU hc (hN hc);obtain⟨b,rfl⟩:=bU hd (hM hd);obtain⟨cv,A,af⟩:=hy;obtain⟨dv,B,bf⟩:=hz;obtain⟨L,ea⟩:=af hc.2;obtain⟨O,eb⟩:=bf hd.2;by_cases S:0<=θ/\θ<=1048576;rotate_left
 .refine⟨.error 2,λ_ _=>by rw[if_neg S],?_⟩;refine ee func156 ntmps156 results156 λw0 Im0 ρ0=>?_;repeat'(first|refine' ak|fail)
  all_goals first|exact Θ|(exfalso;omega)|omega
 obtain⟨k,rfl⟩:=ζ S.1;have ap:=A.per;have bp:=B.per;have al:=A.len;have bl:=B.len;obtain⟨l,hl,p3⟩:=fm a.per.toNat b.per.toNat Z Z;rw[(Z:((a.per.toNat:Nat):Int)=a.per),(Z:((b.per.toNat:Nat):Int)=b.per)]at p3;by_cases h:(l:Int)<=120;rotate_left
 .refine⟨.error 3,λ_ _=>by rw[if_pos S];exact⟨a,b,hN hc,hM hd,by rw[if_neg (by have e:=hl.eq;unfold comP;omega)]⟩,?_⟩;refine ee func156 ntmps156 results156 λw0 Im0 ρ0=>?_;repeat'(first|refine' ak|fail)
  all_goals first|exact Θ|(exfalso;omega)|omega
 obtain⟨m1,hm1⟩:=hl.left;obtain⟨m2,hm2⟩:=hl.right;have p4:=aN a A;have p5:=aN b B;have p6:=ba a Z;have p7:=ba b Z;rw[lC L al.1]at p6;rw[lC O bl.1]at p7;have p8:=lB a A l m1 Z (by rw[hm1,Nat.mul_comm]);have p9:=lB b B l m2 Z (by rw[hm2,Nat.mul_comm]);have q:=hl.pos;have i1:=A.inc;have i2:=B.inc;have g3:0<=(m1:Int)*a.inc:=Int.mul_nonneg Z i1.1;have g4:0<=(m2:Int)*b.inc:=Int.mul_nonneg Z i2.1;have g5:m1<=l:=by rw[hm1];exact Nat.le_mul_of_pos_left _ Z
 have g6:m2<=l:=by rw[hm2];exact Nat.le_mul_of_pos_left _ Z
 have g7:(m1:Int)*a.inc<=120*1073741824:=Int.mul_le_mul Z i1.2 i1.1 Z;have g8:(m2:Int)*b.inc<=120*1073741824:=Int.mul_le_mul Z i2.2 i2.1 Z;obtain⟨V,eδ⟩:∃V,V=(m1:Int)*a.inc-(m2:Int)*b.inc:=⟨_,rfl⟩;obtain⟨F,eF⟩:∃F:Nat,max (max ((a.vals.length-a.per.toNat:Nat):Int) (((b.vals.length-b.per.toNat:Nat):Int)+k)) ((k:Int)+1)=(F:Int):=⟨max (max (a.vals.length-a.per.toNat) (b.vals.length-b.per.toNat+k)) (k+1),Z⟩;obtain⟨D,W⟩:∃D,D=sa a b k:=⟨_,rfl⟩;obtain⟨w0,ew0,p10⟩:=j4 A L B O k F l Z Z;have hF:k<F/\F<=1048976/\a.vals.length<=F+a.per.toNat/\b.vals.length+k<=F+b.per.toNat:=Z;have H:ShF D k F l V:=⟨q,hF.1,fun u hu=>by
  rw[W];unfold sa;rw[dZ A L (by rw[hm1,Nat.mul_comm]) Z,(Z:u+l-k=(u-k)+l),dZ B O (by rw[hm2,Nat.mul_comm]) Z];omega⟩
 have hbd:∀w:Nat,w<=1100000-> -4503599627370496<=D w/\D w<=4503599627370496:=λw hw=>by
  have b1:=b6 A L w;have b2:=b6 B O (w-k);rw[W];unfold sa;omega
 have g:∀f:Nat,f<=1099000->iN D f (f+l) (z3 (sa a b k) f l):=λf hf=>by rw[<-W];exact oz l q λw X K=>by have:=hbd w Z;omega
 have j:=g F Z;rw[<-ew0]at j;have mk:∀x,CanQ (sR D k) x->kw c d k x:=λx hx _ _=>by
  rw[if_pos S];refine⟨a,b,hN hc,hM hd,?_⟩;rw[if_pos (by have e:=hl.eq;unfold comP;omega),β];exact hx.of λt=>w6 (λu hu=>by rw[W];unfold sa Po;rw[ea,eb]) t
 have I:=p10;rw[<-eF]at I;have p0:=so;by_cases hk4:400<=k
 .refine dp func156 ntmps156 results156 ?_;repeat'(first|refine' aj|refine ab (I) ?_)
  all_goals try first|exact bs|(exfalso;omega)|exact ag ⟨.ok (ao 0),rfl,mk _ (H.flat j Z)⟩|exact ag ⟨.error 3,rfl,mk _ (H.lim j Z hk4)⟩
 .obtain⟨w1,ew1,p11⟩:=j4 A L B O k 400 l Z Z;obtain⟨w2,ew2,p12⟩:=j4 A L B O k (400+l) l Z Z;obtain⟨w3,ew3,p13⟩:=j4 A L B O k (F+l) l Z Z;obtain⟨w4,ew4,p14⟩:=j4 A L B O k (F+1) l Z Z;have mw1:=g 400 Z;have mw2:=g (400+l) Z;have mw3:=g (F+l) Z;have mw4:=g (F+1) Z;rw[<-ew1]at mw1;rw[<-ew2]at mw2;rw[<-ew3]at mw3;rw[<-ew4]at mw4;rw[(Z:((400+l:Nat):Int)=400+(l:Int))]at p12;rw[(Z:((F+l:Nat):Int)=(F:Int)+(l:Int)),<-eF]at p13;rw[(Z:((F+1:Nat):Int)=(F:Int)+1),<-eF]at p14;refine dp func156 ntmps156 results156 ?_;repeat'(first|refine' aj|refine ab (I) ?_)
  all_goals try first|exact bs|(exfalso;omega)|exact ag ⟨.ok (ao 0),rfl,mk _ (H.flat j Z)⟩|exact ag ⟨.error 3,rfl,mk _ (H.neg Z (π _) mw1 Z)⟩|exact ag ⟨.error 3,rfl,mk _ (H.neg Z Z j Z)⟩
  obtain⟨fr,s⟩:∃fr:Nat,fr=F:=⟨_,rfl⟩;obtain⟨P,E⟩:∃P:Nat,P=1:=⟨_,rfl⟩;obtain⟨inc,n⟩:∃inc:Int,inc=0:=⟨_,rfl⟩;obtain⟨r,v⟩:∃r,r=w4:=⟨_,rfl⟩;have hmm:iN D (fr+P) (fr+P+l) r:=by rw[s,E,v];exact mw4
  have o:0<=V:=Z;have hfr:F<=fr/\fr<=1000/\1<=P/\P<=120/\0<=inc/\inc<=1099511627776:=Z;have C:∀t,fr<=t->sR D k (t+P)=sR D k t+inc:=λt R=>by
   have X:=uv hF.1 H.rep (w7 q H.rep o λu X K=>by have:=j.1 u X K;omega) t Z;have K:=iM (D:=D) (θ:=k) (Z:t<=t+P);have h3:=iM (D:=D) (θ:=k) (Z:t+P<=t+l);omega
  rotate_left;obtain⟨fr,s⟩:∃fr:Nat,fr=400:=⟨_,rfl⟩;obtain⟨P,E⟩:∃P:Nat,P=l:=⟨_,rfl⟩;obtain⟨inc,n⟩:∃inc:Int,inc=V:=⟨_,rfl⟩;obtain⟨r,v⟩:∃r,r=w2:=⟨_,rfl⟩;have hmm:iN D (fr+P) (fr+P+l) r:=by rw[s,E,v];exact mw2
  have o:0<=V:=Z;have hfr:F<=fr/\fr<=1000/\1<=P/\P<=120/\0<=inc/\inc<=1099511627776:=Z;have C:∀t,fr<=t->sR D k (t+P)=sR D k t+inc:=λt R=>by
   rw[E,n];have hr4:∀u,400<=u->D (u+l)=D u+V:=λu hu=>H.rep u Z;exact uv (Z:k<400) hr4 (w7 q hr4 o λu X K=>by have:=mw1.1 u X K;omega) t Z
  rotate_left;obtain⟨fr,s⟩:∃fr:Nat,fr=F:=⟨_,rfl⟩;obtain⟨P,E⟩:∃P:Nat,P=l:=⟨_,rfl⟩;obtain⟨inc,n⟩:∃inc:Int,inc=V:=⟨_,rfl⟩;obtain⟨r,v⟩:∃r,r=w3:=⟨_,rfl⟩;have hmm:iN D (fr+P) (fr+P+l) r:=by rw[s,E,v];exact mw3
  have o:0<=V:=Z;have hfr:F<=fr/\fr<=1000/\1<=P/\P<=120/\0<=inc/\inc<=1099511627776:=Z;have C:∀t,fr<=t->sR D k (t+P)=sR D k t+inc:=λt R=>by
   rw[E,n];exact uv hF.1 H.rep (w7 q H.rep o λu X K=>by have:=j.1 u X K;omega) t Z
  rotate_left;all_goals
   obtain⟨N,eN⟩:∃N:Nat,N=fr+P:=⟨_,rfl⟩;obtain⟨G,eG⟩:∃G,G=sR D k:=⟨_,rfl⟩;have hG0:∀i,i<=k->G i=0:=λi hi=>by rw[eG];exact DO hi
   refine ae (ι:={p:Nat×Int//k<=p.1/\p.1<N/\iN D (p.1+1) (N+l) p.2}) [2,6,12] [6,12] [] ⟨(N-1,r),κ,κ,by dsimp only;rw[(Z:N-1+1=N),eN];exact hmm⟩ (λ⟨(u,_),_⟩=>u-k) (λ⟨(u,m),_⟩=>[(14,J fr),(16,J P),(17,J inc),(18,.lptr 18 0),(19,J m),(20,J u)]) (λ⟨(u,_),_⟩=>[(18,some (.box [.osl 122 N])),(122,some (.arr N 1 (w8 G u) 3))]) ?_ ?_
   .refine⟨⟨rfl,rfl⟩,?_,?_⟩;all_goals((refine' subP)<;>first|exact fl Z λi hi=>B9 Z|exact Ξ (congrArg (AV.osl 122) Z)|exact ObLe.box (.cons (Ξ (congrArg (AV.osl 122) Z)) .nil)|exact Γ Z|exact bt)
   .rintro⟨⟨u,m⟩,hu,huN,hum⟩;conv=>whnf
    dsimp only at hu huN hum;by_cases hul:(k:Int)<u
    .have p15:=DQ A L B O k u hu Z;have Q:=hum.step Z;rw[W]at Q;have hGu:max 0 (min m (sa a b k u))=G u:=by
      rw[eG,W];exact(DP q (by rw[<-W];exact H.rep) o Z Z Z Q.1 Q.2).symm
     repeat'(first|(refine' aO [] ⟨(u-1,min m (sa a b k u)),κ,κ,by dsimp only;rw[(Z:u-1+1=u),W];exact Q⟩<;>first|exact fl rfl λi hi=>B7 Z hGu|exact bt)|(refine U hul λhb=>?_;conv=>whnf)|refine' aj|fail)
     all_goals try exact bs
    .obtain rfl:k=u:=Z;have hGb:∀t,t<=1100000->0<=G t/\G t<=4503599627370496:=λt R=>by
      have X:=qv D k t;have K:=gV (D:=D) (θ:=k) (π t);have h3:=hbd t R;unfold rS at K;rw[eG];split at K<;>omega
     obtain⟨x,⟨_,_,hX⟩,p16⟩:=gn 220 (.box [.isl N 1 (λi=>[J (G i)])]) rfl rfl G fr P inc Z Z (λt R=>.inl (by have:=hGb t Z;omega)) (λt R=>DR G N t Z);have hx:CanQ (sR D k) x:=by
      rw[<-eG];refine hX (λt R=>?_) (λt R=>by rw[eG];exact C t R);have:=hGb t Z;unfold cx;omega
     repeat(refine fg ?_;conv=>whnf)
     refine aa (λhb=>absurd hb hul) (λhb=>?_);conv=>whnf
     refine az [6,14,16,17,18] [6] [] [] [(18,some (.box [.osl 122 N])),(122,some (.arr N 1 (λi=>[J (G i)]) 3))] ⟨⟨rfl,rfl⟩,?_,?_⟩ ?_
     .skip;all_goals((refine' subP)<;>first|exact fl rfl λi hi=>B8 hG0 i|exact bt)
     .skip;all_goals exact bt
     .conv=>whnf
      refine a7 122 rfl rfl (λ_ _=>rfl) ?_ ?_ ?_
      .all_goals try refine' frzZ
      .all_goals try refine' frzZ
      .conv=>whnf
       rcases x with e|cc;all_goals
        repeat'(first|(refine az [6,14,16,17] [6] [(901,18)] [(18,.lptr 901 0)] [(901,some (.box [.isl N 1 (λi=>[J (G i)])]))] ⟨⟨rfl,rfl⟩,bt,bt⟩ ?_;conv=>whnf)|refine' aj|refine bT p16 ?_)
        exact ag ⟨_,by rfl,mk _ hx⟩
theorem iO(c:Curve)(h:WfG c)(t:Nat)(u:t<=1100000):q0e 98 [c.av,J t] (J (c.at t)):=by
 have s:=h.len;have m:=h.per;have H:=h.inc;by_cases f:(t:Int)<c.vals.length
 .have e:c.at t=c.vals.getD (t:Int).toNat 0:=if_pos f;rw[e];refine ee func98 ntmps98 results98 λw I d=>?_;repeat'(first|refine' ak|fail)
  all_goals first|(exfalso;omega)|exact Θ|omega
 .obtain⟨F,j,k,l⟩:=aC (a:=(t:Int)-c.vals.length) (p:=c.per) Z m.1;obtain⟨q,E⟩:∃q,q=((t:Int)-c.vals.length).tdiv c.per:=⟨_,rfl⟩;rw[<-E]at F j k l;have n:(q+1)*c.per=q*c.per+c.per:=by rw[Int.add_mul,Int.one_mul]
  have v:=h.getD (i:=((t:Int)-(q+1)*c.per).toNat) Z;have o:(q+1)*c.inc<=1100001*1099511627776:=Int.mul_le_mul Z H.2 H.1 Z;have r:0<=(q+1)*c.inc:=Int.mul_nonneg Z H.1;have g:¬(c.vals.getD ((t:Int)-(q+1)*c.per).toNat 0=cx):=by unfold cx;omega
  have e:c.at t=c.vals.getD ((t:Int)-(q+1)*c.per).toNat 0+(q+1)*c.inc:=by
   unfold Curve.at;rw[if_neg f,<-E,if_neg g]
  have b:¬(c.vals.getD ((t:Int)-(((t:Int)-c.vals.length).tdiv c.per+1)*c.per).toNat 0=cx):=by rw[<-E];exact g
  rw[e];refine ee func98 ntmps98 results98 λw I d=>?_;repeat'(first|(refine M b λhb=>?_;conv=>whnf)|refine' ak|fail)
  all_goals try simp only[<-E]at *
  all_goals first|(exfalso;omega)|exact Θ|exact bs
theorem DS{b o:Curve}(hb:WfC b)(f:FinC b)(gb:WfG b)(a:WfC o)(F:FinC o)(g:WfG o)(θ u:Nat)(H:u<=1100000):∃x:Int,x=rS (sa b o θ) θ u/\q0e 221 [b.av,o.av,J θ,J u] (J x):=by
 have P:=iO b gb u H;have p:=iO o g (u-θ) Z;have b1:=b6 hb f u;have B:=b6 a F (u-θ);have n:¬b.at u=4611686018427387904:=Z;unfold rS;by_cases h:(u:Int)<=θ
 .rw[if_pos Z];refine dp func221 ntmps221 results221 ?_;repeat'(first|(refine U h λhb=>?_;conv=>whnf)|refine' aj|fail)
  exact ag ⟨_,rfl,rfl⟩
 .have e:((u-θ:Nat):Int)=(u:Int)-θ:=Z;unfold sa;rw[e]at p B⊢;have n2:¬o.at ((u:Int)-θ)=4611686018427387904:=Z;rw[if_neg Z];refine dp func221 ntmps221 results221 ?_;repeat'(first|(refine M h λhb=>?_;conv=>whnf)|(refine M n2 λhb=>?_;conv=>whnf)|(refine M n λhb=>?_;conv=>whnf)|refine' aj|fail)
  all_goals try exact bs
  exact ag ⟨_,rfl,rfl⟩
theorem GC{D:Nat->Int}{θ S P N u:Nat}{b m:Int}(n:1<=P)(o:θ<S)(e:∀u,S<=u->D (u+P)=D u+b)(i:0<=b)(l:S+P<=N)(f:u+P<=N)(h:iN (rS D θ) u N m):sR D θ u=m:=by
 obtain⟨c,w,W,q,r⟩:=h;have H:∀w,u<=w->m<=rS D θ w:=by
  intro w;induction w using Nat.strongRecOn with
  |ind w ih=>
   intro g;rcases ξ w N with h|h
   .exact c w g h
   .have a:=ih (w-P) Z Z;have d:=e (w-P) Z;rw[(Z:w-P+P=w)]at d;unfold rS at a⊢;rw[if_neg Z]at a⊢;omega
 have j:=gV (D:=D) (θ:=θ) W;obtain⟨v,V,p⟩:=iL D θ u;have k:=H v V;omega
theorem ShF.neg2{D:Nat->Int}{k F l v:Nat}{a:Int}(h:ShF D k F l a)(b:0<a)(c:400<=v)(e:D v<0):CanQ (sR D k) (.error 3):=by
 refine⟨rfl,qw ?_ (yp h.l1 h.kF h.rep b)⟩;have H:=gV (D:=D) (θ:=k) c;have d:=qv D k 400;unfold rS at H;split at H<;>omega
theorem IJ{D:Nat->Int}{k f X:Nat}{w t:Int}(i:k<f)(h:iN D f X w)(H:iN (rS D k) f X t):t=max 0 w:=by
 obtain⟨a,v,A,d,g⟩:=h;obtain⟨b1,u,B,e,b⟩:=H;have C:=a u B e;have c:=b1 v A d;unfold rS at b c;rw[if_neg Z]at b c;omega
def uw(G:Nat->Int)(v:Nat):Nat->List AV:=λi=>[J (bif Nat.ble v i then G i else 0)]
theorem lW{G:Nat->Int}{v i:Nat}(h:v<=i):uw G v i=[J (G i)]:=by
 unfold uw;rw[Nat.ble_eq.mpr h];rfl
theorem lX{G:Nat->Int}{v i:Nat}(h:¬v<=i):uw G v i=[J 0]:=by
 unfold uw;have e:Nat.ble v i=false:=Bool.eq_false_iff.2 λg=>h (Nat.ble_eq.mp g);rw[e];rfl
theorem BA{G:Nat->Int}{v i:Nat}(h:i<v-1):uw G v i=uw G (v-1) i:=by
 rw[lX Z,lX Z]
theorem BB{G:Nat->Int}{i v u:Nat}{x:Int}(H:u+1=v)(h:x=G u):(bif Nat.beq i u then[J x]else uw G v i)=uw G (v-1) i:=by
 subst h;by_cases e:i=u
 .subst e;rw[Nat.beq_refl,lW (v:=v-1) Z];rfl
 .have E:Nat.beq i u=false:=Bool.eq_false_iff.2 λh=>e (Nat.eq_of_beq_eq_true h);rw[E];by_cases g:v<=i
  .rw[lW (v:=v-1) Z];exact lW g
  .rw[lX (v:=v-1) Z];exact lX g
theorem BC(c d:Curve)(hc:Gd c)(hd:Gd d)(θ:Int):∃x,kw c d θ x/\q0e 166 [c.av,d.av,J θ] (ax x):=by
 obtain⟨wc,lc,sc⟩:=cY hc;obtain⟨wd,ld,sd⟩:=cY hd;have mc:MonF c:=b5 hc;have md:MonF d:=b5 hd;obtain⟨_,rfl,p1⟩:=fP c (cL wc lc mc);obtain⟨_,rfl,p2⟩:=fP d (cL wd ld md);by_cases C:0<=θ/\θ<=1048576;rotate_left
 .refine⟨.error 2,λ_ _=>by rw[if_neg C],?_⟩;refine ee func166 ntmps166 results166 λw0 Im0 ρ0=>?_;repeat'(first|refine' ak|fail)
  all_goals first|exact Θ|(exfalso;omega)|omega
 obtain⟨k,rfl⟩:=ζ C.1;obtain⟨y,⟨hy,hE⟩,p3⟩:=oh c d wc wd;obtain⟨a',b',k1,k2,k3⟩:=hE hc hd;rcases y with⟨u,w,e⟩|⟨a,b,l⟩
 .obtain⟨rfl,q⟩:=k3;refine⟨.error 3,λ_ _=>by rw[if_pos C];exact⟨a',b',k1,k2,by rw[if_neg q]⟩,?_⟩;rcases u with _|u<;>rcases w with _|w;all_goals
   refine ee func166 ntmps166 results166 λw0 Im0 ρ0=>?_;repeat'(first|refine' ak|fail)
   all_goals first|exact Θ|(exfalso;omega)|omega
 obtain⟨rfl,rfl,q,_⟩:=k3;obtain⟨Q,E,hl,O⟩:=hy;have la:=Q.lim lc;have lb:=E.lim ld;have ma:=Q.mono mc;have mb:=E.mono md;obtain⟨aw,fa,ea,_⟩:=k1;obtain⟨bw,fb,eb,_⟩:=k2;obtain⟨_,rfl,p4⟩:=bI a (cL Q.wf la ma);obtain⟨_,rfl,p5⟩:=bI b (cL E.wf lb mb);have p6:=kI a b Q.wf la E.wf lb l O;have p0:=qf;have al:=aw.len;have bl:=bw.len;have n:=hl.pos;obtain⟨m1,hm1⟩:=hl.left;obtain⟨m2,hm2⟩:=hl.right;obtain⟨o,eδ⟩:∃o,o=ig a l-ig b l:=⟨_,rfl⟩;rw[<-eδ]at p6;obtain⟨D,V⟩:∃D,D=sa a b k:=⟨_,rfl⟩;have g7:=mZ Q.wf la O;have g8:=mZ E.wf lb O;have f:ShF D k (k + 400) l o:=⟨n,Z,fun u hu=>by
  rw[V];unfold sa;have K:=gT Q.wf (l:=l) (m:=m1) (by rw[hm1,Nat.mul_comm]) (t:=u) Z;have L:=gT E.wf (l:=l) (m:=m2) (by rw[hm2,Nat.mul_comm]) (t:=u-k) Z;rw[(Z:u+l-k=(u-k)+l),K,L];omega⟩
 have hbd:∀w:Nat,w<=1100000-> -4503599627370496<=D w/\D w<=4503599627370496:=λw hw=>by
  have b1:=b6 aw fa w;have b2:=b6 bw fb (w-k);rw[V];unfold sa;omega
 have B:∀w:Nat,w<=1100000->0<=rS D k w/\rS D k w<=4503599627370496:=λw hw=>by
  have K:=hbd w hw;unfold rS;split<;>omega
 have W:=oz (D:=D) (F:=k+400) l n λw K L=>by have:=hbd w Z;omega
 have mt:=oz (D:=rS D k) (F:=k+400) l n λw K L=>by have:=B w Z;omega
 have et:=IJ Z W mt;obtain⟨w,ew⟩:∃w,w=z3 D (k+400) l:=⟨_,rfl⟩;rw[<-ew]at W et;have mk:∀x,CanQ (sR D k) x->kw c d k x:=λx S _ _=>by
  rw[if_pos C];refine⟨a,b,⟨aw,fa,ea,by assumption⟩,⟨bw,fb,eb,by assumption⟩,?_⟩;rw[if_pos q,β];exact S.of λt=>w6 (λu hu=>by rw[V];unfold sa Po;rw[ea,eb]) t
 refine dp func166 ntmps166 results166 ?_;repeat'(first|refine' aj|fail)
 all_goals try exact ariB
 refine ae (ι:={j:Nat//j<=l}) [2,6,8,9,10,12,13,14] [6,8,9] [] ⟨0,χ _⟩ (λ⟨j,_⟩=>l-j) (λ⟨j,_⟩=>[(15,J (z3 (rS D k) (k+400) j)),(16,J ((k:Int)+400+j))]) (λ_=>[]) ?_ ?_
 .exact⟨⟨rfl,rfl⟩,bt,bt⟩
 rintro⟨j,hj⟩;conv=>whnf
 by_cases g:(k:Int)+400+j<(k:Int)+400+l
 .obtain⟨x,I,p7⟩:=DS aw fa Q.wf bw fb E.wf k (k+400+j) Z;rw[<-V]at I;have S:=B (k+400+j) Z;rw[<-I]at S;rw[(Z:((k+400+j:Nat):Int)=(k:Int)+400+j)]at p7;have en:min (z3 (rS D k) (k+400) j) x=z3 (rS D k) (k+400) (j+1):=by rw[I];rfl
  repeat'(first|(refine' aO [] ⟨j+1,Z⟩<;>first|exact Γ en|exact bt)|(refine U g λhb=>?_;conv=>whnf)|refine' aj|fail)
  all_goals try exact bs
 obtain rfl:l=j:=Z;by_cases hk4:400<=k
 .skip;repeat'(first|(refine M g λhb=>?_;conv=>whnf)|refine' aj|fail)
  all_goals try first|exact bs|(exfalso;omega)|exact ag ⟨.ok (ao 0),rfl,mk _ (f.flat W Z)⟩|exact ag ⟨.error 3,rfl,mk _ (f.lim W Z hk4)⟩
 .skip;repeat'(first|(refine M g λhb=>?_;conv=>whnf)|refine' aj|fail)
  all_goals try first|exact bs|(exfalso;omega)|exact ag ⟨.ok (ao 0),rfl,mk _ (f.flat W Z)⟩
  all_goals
   obtain⟨N,eN⟩:∃N:Nat,N=k+400+l:=⟨_,rfl⟩;refine ae (ι:={j:Nat//j<=l/\(0<o->∀i,i<j->0<=D (k+400+i))}) [2,6,8,9,10,12,13,14] [6,8,9] [] ⟨0,χ _,λ_ i r=>absurd r (Nat.not_lt_zero i)⟩ (λ⟨j,_⟩=>l-j) (λ⟨j,_⟩=>[(17,.lptr 17 0),(18,J ((k:Int)+400+j))]) (λ_=>[(17,some (.box [.osl 106 N,J l,J o])),(106,some (.arr N 1 (λ_=>[J 0]) 3))]) ?_ ?_
   .refine⟨⟨rfl,rfl⟩,?_,?_⟩;all_goals((refine' subP)<;>first|exact fl Z λi r=>rfl|exact Ξ (congrArg (AV.osl 106) Z)|exact ObLe.box (.cons (Ξ (congrArg (AV.osl 106) Z)) (.cons Θ (.cons Θ .nil)))|exact bt)
   rintro⟨j,hj,hI⟩;conv=>whnf
   by_cases g:(k:Int)+400+j<(k:Int)+400+l
   .have p8:=iO a Q.wf (k+400+j) Z;have p9:=iO b E.wf (400+j) Z;have hDj:D (k+400+j)=a.at ((k:Int)+400+j)-b.at ((k:Int)+400+j-k):=by
     rw[V];unfold sa;rw[(Z:k+400+j-k=400+j),(Z:((k+400+j:Nat):Int)=(k:Int)+400+j),(Z:((400+j:Nat):Int)=(k:Int)+400+j-k)]
    rw[(Z:((k+400+j:Nat):Int)=(k:Int)+400+j)]at p8;rw[(Z:((400+j:Nat):Int)=(k:Int)+400+j-k)]at p9;by_cases H:0<o
    .by_cases hn:a.at ((k:Int)+400+j)<b.at ((k:Int)+400+j-k)
     .skip;repeat'(first|(refine U hn λhb=>?_;conv=>whnf)|(refine U H λhb=>?_;conv=>whnf)|(refine U g λhb=>?_;conv=>whnf)|refine' aj|fail)
      all_goals try first|exact bs|exact ag ⟨.error 3,rfl,mk _ (f.neg2 H (v:=k+400+j) Z Z)⟩
     .skip;repeat'(first|(exact aI [] ⟨j+1,Z,λh i r=>(ξ i j).elim (hI h i) λh9=>by have e9:i=j:=Z;subst e9;omega⟩)|(refine M hn λhb=>?_;conv=>whnf)|(refine U H λhb=>?_;conv=>whnf)|(refine U g λhb=>?_;conv=>whnf)|refine' aj|fail)
      all_goals try exact bs
    .skip;repeat'(first|(exact aI [] ⟨j+1,Z,λh=>absurd h H⟩)|(refine M H λhb=>?_;conv=>whnf)|(refine U g λhb=>?_;conv=>whnf)|refine' aj|fail)
     all_goals try exact bs
   obtain rfl:l=j:=Z;repeat'(first|(refine M g λhb=>?_;conv=>whnf)|refine' aj|fail)
   all_goals try exact bs
   have hd0:0<=o:=Z;have hnn:∀u,k+400<=u->0<=D u:=w7 n f.rep hd0 λu K L=>by
    by_cases H:0<o
    .have h3:=hI H (u-(k+400)) Z;rw[(Z:k+400+(u-(k+400))=u)]at h3;exact h3
    .have:=W.1 u K L;omega
   obtain⟨X,eM⟩:∃X:Nat,X=N+l:=⟨_,rfl⟩;obtain⟨G,eG⟩:∃G,G=sR D k:=⟨_,rfl⟩;refine ae (ι:={p:Nat×Int//p.1<=X/\((p.1=X/\p.2=4611686018427387904)\/(p.1<X/\iN (rS D k) p.1 X p.2))}) [2,6,8,9] [6,8,9] [] ⟨(X,4611686018427387904),π _,.inl ⟨rfl,rfl⟩⟩ (λ⟨(v,_),_⟩=>v) (λ⟨(v,m),_⟩=>[(15,J m),(17,.lptr 17 0),(19,J ((v:Int)-1))]) (λ⟨(v,_),_⟩=>[(17,some (.box [.osl 106 N,J l,J o])),(106,some (.arr N 1 (uw G v) 3))]) ?_ ?_
   .refine⟨⟨rfl,rfl⟩,?_,?_⟩;all_goals((refine' subP)<;>first|exact fl rfl λi r=>(lX Z).symm|exact Γ Z|exact bt)
   rintro⟨⟨v,m⟩,hv,hm⟩;conv=>whnf
   dsimp only at hv hm;by_cases R:(v:Int)-1>=0
   .obtain⟨x,I,p8⟩:=DS aw fa Q.wf bw fb E.wf k (v-1) Z;rw[<-V]at I;have S:=B (v-1) Z;rw[<-I]at S;rw[(Z:((v-1:Nat):Int)=(v:Int)-1)]at p8;have P:iN (rS D k) (v-1) X (min m x):=by
     rcases hm with⟨rfl,rfl⟩|⟨K,L⟩
     .rw[(Z:min 4611686018427387904 x=x),I];exact⟨λw a b=>by obtain rfl:w=v-1:=Z;exact Int.le_refl _,v-1,π _,Z,rfl⟩
     .rw[I];exact iN.step (by rw[(Z:v-1+1=v)];exact L) Z
    by_cases hvN:(v:Int)-1<N
    .have hG:min m x=G (v-1):=by
      rw[eG];exact(GC n f.kF f.rep hd0 Z Z P).symm
     have hG2:min m x=G ((v:Int)-1).toNat:=by rw[(Z:((v:Int)-1).toNat=v-1)];exact hG
     repeat'(first|(refine' aO [] ⟨(v-1,min m x),κ,.inr ⟨κ,P⟩⟩<;>first|exact fl rfl λi r=>BB Z hG2|exact bt)|(refine U hvN λhb=>?_;conv=>whnf)|(refine U R λhb=>?_;conv=>whnf)|refine' aj|fail)
     all_goals try exact bs
    .skip;repeat'(first|(refine' aO [] ⟨(v-1,min m x),κ,.inr ⟨κ,P⟩⟩<;>first|exact fl rfl λi r=>BA Z|exact bt)|(refine M hvN λhb=>?_;conv=>whnf)|(refine U R λhb=>?_;conv=>whnf)|refine' aj|fail)
     all_goals try exact bs
   have hv00:v=0:=Z;have hGb:∀t,t<=1100000->0<=G t/\G t<=4503599627370496:=λt ht=>by
    have K:=qv D k t;have L:=gV (D:=D) (θ:=k) (π t);have h3:=B t ht;rw[eG];omega
   have hrep:∀t,k+400<=t->G (t+l)=G t+o:=λt ht=>by rw[eG];exact uv f.kF f.rep hnn t ht
   have A:=fk (F:=G) n hrep (λt ht=>by have:=hGb t Z;unfold cx;omega);rw[<-eN]at A;have s:((List.range N).map G).length=N:=by simp
   obtain ⟨x,_,_,hX,p10⟩:=cQ ⟨(List.range N).map G,l,o⟩ ⟨by dsimp only;rw[s];omega,by dsimp only;rw[s];omega,κ,fun y hy=>by
    obtain⟨i,r,rfl⟩:=List.mem_map.1 hy;have:=List.mem_range.1 r;have:=hGb i Z;omega⟩
   have S:CanQ (sR D k) x:=by
    refine(hX λt=>?_).of λt=>by rw[A,eG]
    rw[A,A,eG];exact iM Z
   have p11:q0e 99 [.agg [.isl N 1 (λi=>[J (G i)]),J l,J o]] (ax x) :=
    p10.arg (.cons (AvLe.agg (.cons (kd s.symm λi r=>congrArg (λz=>[J z]) (bB r).symm) (.cons Θ (.cons Θ .nil)))) .nil)
   repeat(refine fg ?_;conv=>whnf)
   refine aa (λhb=>absurd hb R) (λhb=>?_);conv=>whnf
   refine az [6,17] [6] [] [] [(17,some (.box [.osl 106 N,J l,J o])),(106,some (.arr N 1 (λi=>[J (G i)]) 3))] ⟨⟨rfl,rfl⟩,?_,?_⟩ ?_
   .skip;all_goals((refine' subP)<;>first|exact fl rfl λi r=>lW Z|exact bt)
   .skip;all_goals exact bt
   .conv=>whnf
    refine a7 106 rfl rfl (λ_ _=>rfl) ?_ ?_ ?_
    .all_goals try refine' frzZ
    .all_goals try refine' frzZ
    .conv=>whnf
     rcases x with e|cc;all_goals
      repeat'(first|refine' aj|fail)
      exact ag ⟨_,by rfl,mk _ S⟩
theorem kw.same{c d:Curve}(e:Gd c)(f:Gd d){θ:Int}{x y:Except Int Curve}(l:kw c d θ x)(m:kw c d θ y):x=y:=by
 have h:=l e f;have k:=m e f;split at h
 .rename_i g;rw[if_pos g]at k;obtain⟨a,b,i,j,H⟩:=h;obtain⟨A,B,n,o,K⟩:=k;cases i.unique n;cases j.unique o;split at H
  .rename_i q;rw[if_pos q]at K;exact H.unique K
  .rename_i q;rw[if_neg q]at K;rw[H,K]
 .rename_i g;rw[if_neg g]at k;rw[h,k]
def yq(k:Int):Except Int Curve:=if 0<=k/\k<=398 then .ok (au k.toNat)else .error 2
theorem IK(k:Int):q0e 87 [J k] (ax (yq k)):=by
 unfold yq;by_cases h:0<=k/\k<=398
 .rw[if_pos h];have p:=CQ k.toNat Z;rw[(Z:((k.toNat:Nat):Int)=k)]at p;refine ee func87 ntmps87 results87 λw I a=>?_;repeat'(first|refine' ak|fail)
  all_goals first|exact Θ|(exfalso;omega)
 .rw[if_neg h];refine ee func87 ntmps87 results87 λw I a=>?_;repeat'(first|refine' ak|fail)
  all_goals first|exact Θ|(exfalso;omega)
theorem kN(k:Nat)(e:k<=1000):∃o:Curve,o=au k/\q0e 96 [(au k).av] o.av:=by
 have d:=bb k;refine dp func96 ntmps96 results96 ?_;repeat'(first|refine' aj|fail)
 refine ae (ι:={i:Nat//i<=k+1}) [1,2] [1,2] [] ⟨0,Z⟩ (λ⟨i,_⟩=>k+1-i) (λ⟨i,_⟩=>[(3,J i)]) (λ_=>[]) ?_ ?_
 .exact⟨⟨rfl,rfl⟩,bt,bt⟩
 .rintro⟨i,c⟩;conv=>whnf
  have a:(au k).vals.getD (i:Int).toNat 0=dQ k i:=bZ Z;by_cases h:i=k+1
  .have H:(au k).vals.getD (i:Int).toNat 0=4611686018427387904:=by rw[a,h];exact if_pos rfl
   repeat'(first|(refine U H λhb=>?_;conv=>whnf)|refine' aj|fail)
   all_goals try first|exact bs|exact⟨π _,zp Z (λ_ _=>rfl)⟩
   refine aW [2] [] [] [] [(2,some (.box [.osl 28 (k+2),J 1,J 0])),(28,some (.arr (k+2) 1 (λi=>[J ((au k).vals.getD i 0)]) 3))] ⟨⟨rfl,rfl⟩,?_,?_⟩ (aX 28 rfl rfl (λ_ _=>rfl) ?_ ?_ (bO ?_))
   .skip;all_goals((refine' subP)<;>first|exact fl Z λi b=>rfl|exact ObLe.box (.cons (Ξ (congrArg (AV.osl 28) Z)) (.cons Θ (.cons Θ .nil)))|exact bt)
   .skip;all_goals exact bt
   .all_goals try refine' frzZ
   .all_goals try refine' frzZ
   .conv=>whnf
    exact⟨au k,AvLe.agg (.cons (kd d.symm λi b=>rfl) (.cons Θ (.cons Θ .nil))),rfl⟩
  .have H:¬(au k).vals.getD (i:Int).toNat 0=4611686018427387904:=by rw[a];unfold dQ;rw[if_neg h];decide
   repeat'(first|(refine M H λhb=>?_;conv=>whnf)|(exact aI [] ⟨i+1,Z⟩)|refine' aj|fail)
   all_goals try exact bs
theorem kO(k:Nat)(o:k<=398):∃b:Bool,b=true/\q0e 95 [(au k).av] (.bool b):=by
 have g:=bb k;have p:(au k).per=1:=rfl;have n:(au k).inc=0:=rfl;have a:(au k).vals.getD (((au k).vals.length:Int)-1).toNat 0=4611686018427387904:=by
  rw[g,bZ Z];exact if_pos Z
 have H:∀i:Nat,i<k+1->(au k).vals.getD i 0=0:=λi h=>by
  rw[bZ Z];exact if_neg Z
 refine dp func95 ntmps95 results95 ?_;repeat'(first|refine' aj|fail)
 all_goals try exact bs
 refine ae (ι:={i:Nat//i<=k+2}) [1,3] [1] [] ⟨0,Z⟩ (λ⟨i,_⟩=>k+2-i) (λ⟨i,_⟩=>[(4,J i)]) (λ_=>[]) ?_ ?_
 .exact⟨⟨rfl,rfl⟩,bt,bt⟩
 .rintro⟨i,f⟩;conv=>whnf
  have m:0<i->i<k+2->(au k).vals.getD ((i:Int)-1).toNat 0=0:=λd l=>by
   rw[(Z:((i:Int)-1).toNat=i-1)];exact H _ Z
  by_cases e:i=k+1
  .have b1:(au k).vals.getD (i:Int).toNat 0=4611686018427387904:=by
    rw[β,bZ Z];exact if_pos e
   have j:=m Z Z;repeat'(first|(exact aI [] ⟨i+1,Z⟩)|refine' aj|fail)
   all_goals try first|exact bs|exact ag ⟨false,rfl,by exfalso;omega⟩|(exfalso;omega)
  .by_cases c:i<k+1
   .have b1:(au k).vals.getD (i:Int).toNat 0=0:=H i c;have j:0<i->(au k).vals.getD ((i:Int)-1).toNat 0=0:=λd=>m d Z;repeat'(first|(exact aI [] ⟨i+1,Z⟩)|refine' aj|fail)
    all_goals try first|exact bs|exact ag ⟨false,rfl,by exfalso;omega⟩|(exfalso;omega)
   .skip;repeat'(first|refine' aj|fail)
    all_goals try first|exact bs|exact ag ⟨false,rfl,by exfalso;omega⟩|exact ag ⟨true,rfl,rfl⟩|exact ag ⟨_,rfl,decide_eq_true Z⟩|(exfalso;omega)
theorem DT(k:Nat)(h:k<=398):q0e 99 [(au k).av] (ax (.ok (au k))):=by
 obtain⟨_,rfl,p⟩:=kN k Z;obtain⟨_,rfl,P⟩:=kO k h;refine ee func99 ntmps99 results99 λw I a=>?_;repeat'(first|refine' ak|fail)
 all_goals exact Θ
theorem zR{k n i:Nat}{g:Nat->List AV}(b:n=k+1)(a:i<n+1)(H:g 0=[J cx]):(bif Nat.blt i n then[J 0]else g (i-n))=[J (dQ k i)]:=by
 unfold dQ;by_cases h:i<n
 .rw[Nat.blt_eq.mpr h,if_neg Z];rfl
 .have e:Nat.blt i n=false:=Bool.eq_false_iff.2 λg=>h (Nat.blt_eq.mp g);rw[e,if_pos Z,(Z:i-n=0)];exact H
theorem GD(k:Nat)(H:k<=398):q0e 168 [J k] (ax (.ok (au k))):=by
 have p:=DT k H;have b:=bb k;have P:q0e 99 [.agg [.isl (((k:Int)+1).toNat+1) 1 (λi=>[J (dQ k i)]),J 1,J 0]] (ax (.ok (au k))) :=
  p.arg (.cons (AvLe.agg (.cons (kd Z λi h=>congrArg (λz=>[J z]) (bZ Z).symm) (.cons Θ (.cons Θ .nil)))) .nil)
 refine ee func168 ntmps168 results168 λw I a=>?_;repeat'(first|refine' ak|(refine nc P rfl (π _) ?_ ?_ ?_;rotate_left;rotate_left;conv=>whnf))
 all_goals try first|exact bs|exact Θ|exact⟨π _,aL Z rfl⟩
 .exactλi h=>zR (k:=k) (g:=λi=>List.take 1 (List.drop (i*1) [J cx])) Z h rfl
 .exactλi h=>(congrArg (ka []) (zR (k:=k) (g:=λi=>List.take 1 (List.drop (i*1) [J cx])) Z h rfl)).trans rfl
theorem GE(k:Int):q0e 94 [J k] (ax (yq k)):=by
 unfold yq;by_cases h:0<=k/\k<=398
 .rw[if_pos h];have p:=GD k.toNat Z;rw[(Z:((k.toNat:Nat):Int)=k)]at p;refine ee func94 ntmps94 results94 λw I a=>?_;repeat'(first|refine' ak|fail)
  all_goals first|exact Θ|(exfalso;omega)
 .rw[if_neg h];refine ee func94 ntmps94 results94 λw I a=>?_;repeat'(first|refine' ak|fail)
  all_goals first|exact Θ|(exfalso;omega)
theorem GF{c:Int}(a:0<=c/\c<=4000):CanQ (λt:Nat=>(ao c).at t) (.ok (ao c)):=by
 have H:=aR (c:=c) Z;exact⟨aY H.1,H.2,λt=>rfl,⟨λ_ p' _ h=>h.1,λ_ _ _ _=>χ _⟩⟩
theorem GG(c:Int)(h:0<=c/\c<=4000):q0e 165 [J c] (ax (.ok (ao c))):=by
 obtain⟨x,_,_,H,p⟩:=cQ (ao c) (ng h).1;obtain rfl:=(H λt=>lS h.1 t (t+1) (Nat.le_succ t)).unique (GF h);have P:q0e 99 [.agg [.isl 1 1 (λi=>[J ([(0:Int)].getD i 0)]),J 1,J c]] (ax (.ok (ao c))):=p;refine ee func165 ntmps165 results165 λw I b=>?_;repeat'(first|refine' ak|(refine nc P rfl (π _) ?_ ?_ ?_;rotate_left;rotate_left;conv=>whnf))
 all_goals try first|exact bs|exact Θ
 .exactλi a=>by obtain rfl:i=0:=Z;rfl
 .exactλi a=>by obtain rfl:i=0:=Z;rfl
theorem w9(n:Net)(d:Xa)(L C:Int)(b:0<=L/\L<n.lines.length)(h:(n.lines.getD L.toNat default).kind=1)(H:0<=(n.lines.getD L.toNat default).cap/\(n.lines.getD L.toNat default).cap<=4000) :
  q0e 155 [n.av,aF d,J L,J C] (ax (.ok (ao (n.lines.getD L.toNat default).cap))):=by
 have p:=pq (n.lines.getD L.toNat default).cap H;refine ee func155 ntmps155 results155 λw I a=>?_;repeat'(first|(refine U h λhb=>?_;conv=>whnf)|refine' ak|fail)
 all_goals first|exact Θ|omega|(exfalso;omega)
open Classical in
noncomputable def fJ(c d:Curve)(θ:Int):Except Int Curve:=if h:Gd c/\Gd d then Classical.choose (i5 c d h.1 h.2 θ)else .error 3
theorem qx{c d:Curve}(h:Gd c)(H:Gd d)(θ:Int):q0e 156 [c.av,d.av,J θ] (ax (fJ c d θ))/\q0e 166 [c.av,d.av,J θ] (ax (fJ c d θ)):=by
 unfold fJ;rw[dif_pos ⟨h,H⟩];obtain⟨a,b⟩:=Classical.choose_spec (i5 c d h H θ);refine⟨b,?_⟩;obtain⟨x,e,f⟩:=BC c d h H θ;rw[a.same h H e];exact f
theorem kw.ne{c d:Curve}(f:Gd c)(g:Gd d){θ:Int}{e:Int}(h:kw c d θ (.error e)):e≠0:=by
 have h:=h f g;split at h
 .obtain⟨a,b,_,_,H⟩:=h;split at H
  .have:=H.1;omega
  .injection H with H;omega
 .injection h with h;omega
theorem DU{c d:Curve}(H:Gd c)(a:Gd d){θ:Int}{e:Int}(h:fJ c d θ=.error e):e≠0:=by
 unfold fJ at h;rw[dif_pos ⟨H,a⟩]at h;have b:=(Classical.choose_spec (i5 c d H a θ)).1;rw[h]at b;exact b.ne H a
theorem iP{l:Line}{k:Nat}{cs:List Curve}{sz:List Sz}(h:SrvOk l k cs sz)(d:GdAll cs)(H:¬l.kind=1):(cP (fD l k cs sz) (fD l k cs sz)/\y0 (fD l k cs sz))/\q0e 216 (mf l k cs sz) (ax (fD l k cs sz))/\q0e 167 (mf l k cs sz) (ax (fD l k cs sz)):=by
 have m:om cs:=λi j=>(d.gd i j).1;have s:=h.k;have hcl:=h.clen;have n:=h.slen;have e:=h.line;obtain⟨b,⟨_,hb⟩,P⟩:=zy l e k Z cs Z sz Z h.sizes;obtain rfl:=hb m;obtain⟨D,x,c,_,p⟩:=vY l k cs sz h m P;obtain⟨y,q,r⟩:=qp l k cs sz h d H;obtain⟨rfl,f⟩:=q;have o:x=fD l k cs sz:=by
  unfold fD;by_cases a:l.kind=2
  .rw[if_pos a];exact(c.prioE a λi j=>d.gd i Z).1
  .rw[if_neg a];exact(c.oth H a).2.2.1
 have g:=c.dx;rw[o]at p g;exact⟨⟨⟨rfl,f⟩,g⟩,p,r⟩
theorem jT{n:Net}{d:Xa}(h:NetOk n)(e:NamesOk n)(b:ShapeOk n d){L:Int}(a:0<=L/\L<n.lines.length){cs:List Curve}(H:dr n d L (n.lines.getD L.toNat default).classes.toNat=.ok cs):GdAll cs:=by
 obtain⟨C,c⟩:=ov H;refine⟨λi g=>?_⟩;obtain⟨x,⟨rfl,f⟩,_⟩:=sH n d h e b L i a Z;exact f _ (c i Z)
noncomputable def C7(n:Net)(d:Xa)(L:Int)(k:Nat):Except Int Curve :=
 if(n.lines.getD L.toNat default).kind=1 then .ok (ao (n.lines.getD L.toNat default).cap)
 else match dr n d L (n.lines.getD L.toNat default).classes.toNat with
  |.error e=>.error e
  |.ok cs=>fD (n.lines.getD L.toNat default) k cs (dC n L)
theorem BD(n:Net)(d:Xa)(h:NetOk n)(j:NamesOk n)(b:ShapeOk n d)(L:Int)(a:0<=L/\L<n.lines.length)(k:Nat)(g:(k:Int)<(n.lines.getD L.toNat default).classes) :
  q0e 155 [n.av,aF d,J L,J k] (ax (C7 n d L k)):=by
 have i:=h.line (n.lines.getD L.toNat default) (by rw[γ,υ Z];exact List.getElem_mem _);unfold C7;by_cases H:(n.lines.getD L.toNat default).kind=1
 .rw[if_pos H];exact w9 n d L k a H (by have:=i.cap;omega)
 .rw[if_neg H];have p:=nK n d h b L a;have l:=uh h a;rcases hc:dr n d L (n.lines.getD L.toNat default).classes.toNat with e|cs
  .have c:=bn (ft h b hc);rw[hc]at p;refine ee func155 ntmps155 results155 λw I f=>?_;repeat'(first|(refine M H λhb=>?_;conv=>whnf)|refine' ak|fail)
   all_goals first|exact absurd ‹_› c|exact Θ|omega|(exfalso;omega)
  .rw[hc]at p;dsimp only;obtain⟨q,_⟩:=nL h b a g hc;obtain⟨_,P,_⟩:=iP q (jT h j b a hc) H;obtain⟨z,E⟩:∃z,z=fD (n.lines.getD L.toNat default) k cs (dC n L):=⟨_,rfl⟩;rw[<-E]at P⊢;rcases z with e|z;all_goals
    refine ee func155 ntmps155 results155 λw I f=>?_;repeat'(first|(refine M H λhb=>?_;conv=>whnf)|refine' ak|fail)
    all_goals first|exact Θ|omega|(exfalso;omega)
theorem yr{n:Net}{d:Xa}(h:NetOk n)(i:NamesOk n)(e:ShapeOk n d){L:Int}(b:0<=L/\L<n.lines.length){k:Nat}(f:(k:Int)<(n.lines.getD L.toNat default).classes){z:Curve}(a:C7 n d L k=.ok z):Gd z:=by
 have g:=h.line (n.lines.getD L.toNat default) (by rw[γ,υ Z];exact List.getElem_mem _);unfold C7 at a;split at a
 .cases a;exact aR (by have:=g.cap;omega)
 .rename_i H;split at a
  .cases a
  .rename_i cs c;obtain⟨q,_⟩:=nL h e b f c;exact(iP q (jT h i e b c) H).1.1.2 z a
theorem jU{n:Net}{d:Xa}(h:NetOk n)(c:NamesOk n)(H:ShapeOk n d){i k:Nat}(a:i<n.flows.length)(b:k<(n.flows.getD i default).route.length){z:Curve}(f:dK n d i ((n.flows.getD i default).route.getD k 0) (n.flows.getD i default).class_=.ok z):Gd z:=by
 obtain⟨x,⟨rfl,e⟩,_⟩:=qu n d h c H i k a b;exact e z f
theorem DV{n:Net}{d:Xa}(h:NetOk n)(i:NamesOk n)(c:ShapeOk n d){L:Int}(f:0<=L/\L<n.lines.length){k:Nat}(g:(k:Int)<(n.lines.getD L.toNat default).classes){e:Int}(a:C7 n d L k=.error e):e≠0:=by
 unfold C7 at a;split at a
 .cases a
 .rename_i H;split at a
  .rename_i E b;cases a;exact bn (ft h c b)
  .rename_i cs b;obtain⟨q,_⟩:=nL h c f g b;have:=(iP q (jT h i c f b) H).1.2;rw[a]at this;exact bn this
theorem wA{st:Curve->Int->Except Int Curve}{e:Int}:∀{V:List Int} {s:Curve},dk st s V=.error e->∃s' j,j∈V/\st s' j=.error e
 |[],s,h=>by cases h
 |j::r,s,h=>by
  rw[jS]at h;rcases hs:st s j with E|z
  .rw[hs]at h;cases h;exact⟨s,j,by simp,hs⟩
  .rw[hs]at h;obtain⟨s',b,H,a⟩:=wA h;exact⟨s',b,by simp[H],a⟩
theorem ni{n:Net}{d:Xa}(h:NetOk n)(a:ShapeOk n d){i:Nat}{L C e:Int}(c:dK n d i L C=.error e):e≠0:=by
 obtain⟨s,j,b,H⟩:=wA c;obtain⟨W,f,w⟩:=pC b;obtain⟨q,rfl⟩:=ζ W;unfold E5 at H;split at H
 .cases H
 .rw[β]at w;exact bn (gC h a Z w H)
noncomputable def nS(n:Net)(d:Xa)(i k:Nat)(θ:Int):Except Int Curve :=
 match dK n d i ((n.flows.getD i default).route.getD k 0) (n.flows.getD i default).class_ with
 |.error e=>.error e
 |.ok o=>match C7 n d ((n.flows.getD i default).route.getD k 0) (n.flows.getD i default).class_.toNat with
  |.error e=>.error e
  |.ok b=>fJ b o θ
theorem IL(n:Net)(d:Xa)(h:NetOk n)(f:NamesOk n)(a:ShapeOk n d)(i k:Nat)(m:i<n.flows.length)(p:k<(n.flows.getD i default).route.length)(θ:Int) :
  q0e 86 [n.av,aF d,J i,J k,J θ] (ax (nS n d i k θ)):=by
 have H:FlowOk n.lines (n.flows.getD i default):=h.flow _ (by simp[m]);have q:=a9 (l:=(n.flows.getD i default).route) (i:=k) p;have g:=H.lines _ q;have u:=H.cls2 _ q;have t:=H.cls;obtain⟨_,rfl,r⟩:=B6 n d h a i k m p;have P:=BD n d h f a ((n.flows.getD i default).route.getD k 0) g (n.flows.getD i default).class_.toNat Z;rw[(Z:(((n.flows.getD i default).class_.toNat:Nat):Int)=(n.flows.getD i default).class_)]at P;unfold nS;rcases ho:dK n d i ((n.flows.getD i default).route.getD k 0) (n.flows.getD i default).class_ with e|o
 .rw[ho]at r;have j:=ni h a ho;refine ee func86 ntmps86 results86 λw I c=>?_;repeat'(first|refine' ak|fail)
  all_goals first|exact absurd ‹_› j|exact Θ|omega|(exfalso;omega)
 .rw[ho]at r;have G:=jU h f a m p ho;dsimp only;rcases hb:C7 n d ((n.flows.getD i default).route.getD k 0) (n.flows.getD i default).class_.toNat with e|b
  .rw[hb]at P;have j:=DV h f a g Z hb;refine ee func86 ntmps86 results86 λw I c=>?_;repeat'(first|refine' ak|fail)
   all_goals first|exact absurd ‹_› j|exact Θ|(simp only[β]at *;omega)|omega|(exfalso;omega)
  .rw[hb]at P;have gb:=yr h f a g Z hb;have s:=(qx gb G θ).1;obtain⟨z,E⟩:∃z,z=fJ b o θ:=⟨_,rfl⟩;dsimp only;rw[<-E]at s⊢;rcases z with e|z;all_goals
    refine ee func86 ntmps86 results86 λw I c=>?_;repeat'(first|refine' ak|fail)
    all_goals first|exact Θ|(simp only[β]at *;omega)|omega|(exfalso;omega)
theorem GH(n:Net)(d:Xa)(h:NetOk n)(q:NamesOk n)(f:ShapeOk n d)(i k:Nat)(t:i<n.flows.length)(u:k<(n.flows.getD i default).route.length)(θ:Int) :
  q0e 93 [n.av,aF d,J i,J k,J θ] (ax (nS n d i k θ)):=by
 have g:FlowOk n.lines (n.flows.getD i default):=h.flow _ (by simp[t]);have y:=a9 (l:=(n.flows.getD i default).route) (i:=k) u;have j:=g.lines _ y;have N:=g.cls2 _ y;have L:=g.cls;obtain⟨_,⟨rfl,_⟩,A⟩:=qu n d h q f i k t u;obtain⟨_,⟨rfl,F⟩,B⟩:=w5 n d h q f ((n.flows.getD i default).route.getD k 0) j;unfold nS;rcases ho:dK n d i ((n.flows.getD i default).route.getD k 0) (n.flows.getD i default).class_ with e|o
 .rw[ho]at A;have m:=ni h f ho;refine ee func93 ntmps93 results93 λw I a=>?_;repeat'(first|refine' ak|fail)
  all_goals first|exact absurd ‹_› m|exact Θ|omega|(exfalso;omega)
 .rw[ho]at A;have G:=jU h q f t u ho;dsimp only;by_cases H:(n.lines.getD ((n.flows.getD i default).route.getD k 0).toNat default).kind=1
  .have K:=h.line (n.lines.getD ((n.flows.getD i default).route.getD k 0).toNat default) (by rw[γ,υ Z];exact List.getElem_mem _);have x:=K.cap;have C:C7 n d ((n.flows.getD i default).route.getD k 0) (n.flows.getD i default).class_.toNat=.ok (ao (n.lines.getD ((n.flows.getD i default).route.getD k 0).toNat default).cap):=by unfold C7;rw[if_pos H]
   rw[C];dsimp only;have O:=GG (n.lines.getD ((n.flows.getD i default).route.getD k 0).toNat default).cap Z;have v:=(qx (aR (c:=(n.lines.getD ((n.flows.getD i default).route.getD k 0).toNat default).cap) Z) G θ).2;obtain⟨z,r⟩:∃z,z=fJ (ao (n.lines.getD ((n.flows.getD i default).route.getD k 0).toNat default).cap) o θ:=⟨_,rfl⟩;rw[<-r]at v⊢;rcases z with e|z;all_goals
    refine ee func93 ntmps93 results93 λw I a=>?_;repeat'(first|(refine U H λhb=>?_;conv=>whnf)|refine' ak|fail)
    all_goals first|exact Θ|(simp only[β]at *;omega)|omega|(exfalso;omega)
  .obtain⟨sz,E,R⟩:=qr n h q ((n.flows.getD i default).route.getD k 0) j;have D:dC n ((n.flows.getD i default).route.getD k 0)=sz:=by rw[E];exact qd h j
   unfold C7;rw[if_neg H];rcases hc:dr n d ((n.flows.getD i default).route.getD k 0) (n.lines.getD ((n.flows.getD i default).route.getD k 0).toNat default).classes.toNat with e|cs
   .rw[hc]at B;have m:=bn (ft h f hc);refine ee func93 ntmps93 results93 λw I a=>?_;repeat'(first|(refine M H λhb=>?_;conv=>whnf)|refine' ak|fail)
    all_goals first|exact absurd ‹_› m|exact Θ|(simp only[β]at *;omega)|omega|(exfalso;omega)
   .rw[hc]at B;obtain⟨Q,_⟩:=nL h f j (k:=(n.flows.getD i default).class_.toNat) Z hc;obtain⟨⟨⟨_,p⟩,s⟩,_,P⟩:=iP Q (jT h q f j hc) H;rw[D]at P p s⊢;unfold mf at P;rw[(Z:(((n.flows.getD i default).class_.toNat:Nat):Int)=(n.flows.getD i default).class_)]at P;dsimp only;rcases hb:fD (n.lines.getD ((n.flows.getD i default).route.getD k 0).toNat default) (n.flows.getD i default).class_.toNat cs sz with e|b
    .rw[hb]at P s;have m:=bn s;refine ee func93 ntmps93 results93 λw I a=>?_;repeat'(first|(refine M H λhb=>?_;conv=>whnf)|refine' ak|fail)
     all_goals first|exact absurd ‹_› m|exact Θ|(simp only[β]at *;omega)|omega|(exfalso;omega)
    .rw[hb]at P;have v:=(qx (p b hb) G θ).2;obtain⟨z,r⟩:∃z,z=fJ b o θ:=⟨_,rfl⟩;dsimp only;rw[<-r]at v⊢;rcases z with e|z;all_goals
      refine ee func93 ntmps93 results93 λw I a=>?_;repeat'(first|(refine M H λhb=>?_;conv=>whnf)|refine' ak|fail)
      all_goals first|exact Θ|(simp only[β]at *;omega)|omega|(exfalso;omega)
noncomputable def bq(n:Net)(d:Xa)(i k:Nat)(c:Int):Except Int Curve :=
 if c<0 then .error 2 else if 0<c then nS n d i k (c-1)
 else if(d.getD ((n.flows.getD i default).route.getD k 0).toNat []).getD (n.flows.getD i default).class_.toNat 0<0 then .error 5
 else yq ((d.getD ((n.flows.getD i default).route.getD k 0).toNat []).getD (n.flows.getD i default).class_.toNat 0)
theorem qz(n:Net)(d:Xa)(h:NetOk n)(q:NamesOk n)(b:ShapeOk n d)(i k:Nat)(g:i<n.flows.length)(f:k<(n.flows.getD i default).route.length)(c:Int)(o:ah c) :
  q0e 53 [n.av,aF d,J i,J k,J c] (ax (bq n d i k c)):=by
 have H:FlowOk n.lines (n.flows.getD i default):=h.flow _ (by simp[g]);have t:=H.lines _ (a9 (l:=(n.flows.getD i default).route) (i:=k) f);have u:=H.cls2 _ (a9 (l:=(n.flows.getD i default).route) (i:=k) f);have s:=H.cls;have v:=b.row ((n.flows.getD i default).route.getD k 0).toNat Z;have p:=b.len;have x:=mQ n d h b i k g f;have P:=IL n d h q b i k g f (c-1);have r:=IK ((d.getD ((n.flows.getD i default).route.getD k 0).toNat []).getD (n.flows.getD i default).class_.toNat 0);unfold ah at o;obtain⟨z,E⟩:∃z,z=bq n d i k c:=⟨_,rfl⟩;rw[<-E];unfold bq at E;by_cases j:c<0
 .rw[if_pos j]at E;subst E;refine ee func53 ntmps53 results53 λw I a=>?_;repeat'(first|refine' ak|fail)
  all_goals first|exact Θ|(exfalso;omega)|omega
 .rw[if_neg j]at E;by_cases m:0<c
  .rw[if_pos m]at E;rw[<-E]at P;rcases z with e|z;all_goals
    refine ee func53 ntmps53 results53 λw I a=>?_;repeat'(first|refine' ak|fail)
    all_goals first|exact Θ|(exfalso;omega)|exact bs
  .rw[if_neg m]at E;by_cases C:(d.getD ((n.flows.getD i default).route.getD k 0).toNat []).getD (n.flows.getD i default).class_.toNat 0<0
   .rw[if_pos C]at E;subst E;refine ee func53 ntmps53 results53 λw I a=>?_;repeat'(first|(refine U C λhb=>?_;conv=>whnf)|refine' ak|fail)
    all_goals first|exact Θ|(simp only[β]at *;omega)|(exfalso;omega)|omega
   .rw[if_neg C]at E;rw[<-E]at r;rcases z with e|z;all_goals
     refine ee func53 ntmps53 results53 λw I a=>?_;repeat'(first|(refine M C λhb=>?_;conv=>whnf)|refine' ak|fail)
     all_goals first|exact Θ|(simp only[β]at *;omega)|(exfalso;omega)|omega
theorem sI(n:Net)(d:Xa)(h:NetOk n)(o:NamesOk n)(b:ShapeOk n d)(i k:Nat)(g:i<n.flows.length)(f:k<(n.flows.getD i default).route.length)(c:Int)(p:ah c) :
  q0e 56 [n.av,aF d,J i,J k,J c] (ax (bq n d i k c)):=by
 have H:FlowOk n.lines (n.flows.getD i default):=h.flow _ (by simp[g]);have t:=H.lines _ (a9 (l:=(n.flows.getD i default).route) (i:=k) f);have u:=H.cls2 _ (a9 (l:=(n.flows.getD i default).route) (i:=k) f);have s:=H.cls;have v:=b.row ((n.flows.getD i default).route.getD k 0).toNat Z;have q:=b.len;obtain⟨_,rfl,x⟩:=cb n d h o b;have y:=uu n h i k g f;have P:=GH n d h o b i k g f (c-1);have r:=GE ((d.getD ((n.flows.getD i default).route.getD k 0).toNat []).getD (n.flows.getD i default).class_.toNat 0);unfold ah at p;obtain⟨z,E⟩:∃z,z=bq n d i k c:=⟨_,rfl⟩;rw[<-E];unfold bq at E;by_cases j:c<0
 .rw[if_pos j]at E;subst E;refine ee func56 ntmps56 results56 λw I a=>?_;repeat'(first|refine' ak|fail)
  all_goals first|exact Θ|(exfalso;omega)|omega
 .rw[if_neg j]at E;by_cases m:0<c
  .rw[if_pos m]at E;rw[<-E]at P;rcases z with e|z;all_goals
    refine ee func56 ntmps56 results56 λw I a=>?_;repeat'(first|refine' ak|fail)
    all_goals first|exact Θ|(exfalso;omega)|exact bs
  .rw[if_neg m]at E;by_cases C:(d.getD ((n.flows.getD i default).route.getD k 0).toNat []).getD (n.flows.getD i default).class_.toNat 0<0
   .rw[if_pos C]at E;subst E;refine ee func56 ntmps56 results56 λw I a=>?_;repeat'(first|(refine U C λhb=>?_;conv=>whnf)|refine' ak|fail)
    all_goals first|exact Θ|(simp only[β]at *;omega)|(exfalso;omega)|omega
   .rw[if_neg C]at E;rw[<-E]at r;rcases z with e|z;all_goals
     refine ee func56 ntmps56 results56 λw I a=>?_;repeat'(first|(refine M C λhb=>?_;conv=>whnf)|refine' ak|fail)
     all_goals first|exact Θ|(simp only[β]at *;omega)|(exfalso;omega)|omega
theorem BE(c:Curve)(H:Gd c)(k:Nat)(f:k<=398):∃(a:Curve) (T:Nat),(WfC a/\FinC a/\(∀t:Nat,a.at t=c.at t)/\k+1<=T/\T<=520)/\q0e 117 [c.av,(au k).av] (K4 (.ok (a,au k,T,false))):=by
 obtain⟨y,⟨n,_,j⟩,w⟩:=ct c;obtain⟨a,rfl⟩:=bU H (j H);obtain⟨_,A,g⟩:=n;obtain⟨F,i⟩:=g H.2;have x:=pO k f;have B:=tW f;have r:=A.per;have q:=A.len;have u:=bb k;have v:(au k).per=1:=rfl;obtain⟨l,e,p⟩:=fm a.per.toNat 1 Z Z;have s:l=a.per.toNat:=by have:=e.eq;rw[Nat.gcd_one_right,Nat.div_one,Nat.mul_one]at this;exact this
 rw[(Z:((a.per.toNat:Nat):Int)=a.per)]at p;have p:q0e 180 [J a.per,J (au k).per] (J l):=p;have z:=aN a A;have C:=aN (au k) B;have D:=ba a Z;have P:=ba (au k) Z;have d:finB (au k)=false:=by unfold finB;rw[vJ];rfl
 rw[d]at P;have h:(l:Int)<=120:=Z;obtain⟨b,E⟩:∃b:Nat,max ((a.vals.length-a.per.toNat:Nat):Int) (((au k).vals.length-(au k).per.toNat:Nat):Int)+(l:Int)=(b:Int):=⟨max (a.vals.length-a.per.toNat) ((au k).vals.length-(au k).per.toNat)+l,Z⟩;have m:(au k).per.toNat=1:=rfl;refine⟨a,b,⟨A,F,i,Z,Z⟩,?_⟩;refine ee func117 ntmps117 results117 λW I o=>?_;repeat'(first|refine' ak|fail)
 all_goals first|exact bs|exact AvLe.tup (.cons (AvLe.agg (.cons Θ (.cons Θ (.cons Θ (.cons Θ (.cons Θ (.cons Θ (.cons (Γ E) (.cons Θ .nil))))))))) (.cons Θ .nil))
def E6(c:Curve)(k:Nat):Nat->Int:=λt=>if t<=k then c.at t else 0
theorem BF(c:Curve)(G:Gd c)(k:Nat)(d:k<=398):∃x,DevE (E6 c k) (λt=>(au k).at t) x/\q0e 63 [c.av,(au k).av] (zf x):=by
 obtain⟨a,T,⟨A,F,E,z,C⟩,R⟩:=BE c G k d;have B:=tW d;have L:∃D:Nat->Int×Bool,∀t:Nat,t<T->KT (au k) (a.at t) ((D t).1+t,(D t).2)/\bx 119 [J t,.lptr 901 0] [(901,.box (pK (a,au k,T,false)))] (H6 (D t)) [(901,.box (pK (a,au k,T,false)))] :=
  ⟨fun t=>if h:t<=1000 then Classical.choose (lE a (au k) T false A B t h)else(0,true),fun t b=>by
   have h:t<=1000:=Z;simp only[h,dite_true];exact Classical.choose_spec (lE a (au k) T false A B t h)⟩
 obtain⟨D,j⟩:=L;obtain⟨⟨i,v,w⟩,N,P⟩:=vI 119 (.box (pK (a,au k,T,false))) rfl rfl T Z D λt b=>(j t b).2;obtain⟨r,s,y,u⟩:=N;dsimp only at r s y u;have m:=lG d;have H:=λt:Nat=>b6 A F t;refine⟨.ok (i,v,w),⟨λf=>?_,λf=>⟨r,λt=>?_,?_⟩⟩,?_⟩
 .exfalso;obtain⟨t,b,e⟩:=s f;obtain⟨_,_,Q⟩:=(j t b).1;have p:=H t;have l:=Q (by unfold cx;omega) e (k+1);rw[dJ d,if_neg Z]at l;unfold cx at l;omega
 .dsimp only;unfold E6;rcases ξ k t with g|g
  .rw[if_neg Z,dJ d];unfold cx;split<;>omega
  .rw[if_pos g,<-E];have g:t<T:=Z;obtain⟨p,l⟩:=y f t g;obtain⟨n,o,_⟩:=(j t g).1;have q:=(o m p).1;dsimp only at n q;rw[(Z:(D t).1+(t:Int)=(((D t).1+(t:Int)).toNat:Nat))]at q;exact Int.le_trans q (m _ _ Z)
 .by_cases K:v=0
  .exact .inl κ
  .rcases u f with e|⟨t,b,e⟩
   .exact .inl κ
   .obtain⟨n,o,_⟩:=(j t b).1;have q:=(o m (y f t b).1).2;dsimp only at n q e⊢;have Q:=q (t+v.toNat-1) Z;refine .inr ⟨t,t+v.toNat-1,Z,?_⟩;unfold E6;rcases ξ k t with g|g
    .exfalso;rw[dJ d,if_neg Z]at Q;have:=H t;unfold cx at Q;omega
    .rw[if_pos g,<-E];exact Q
 refine ee func63 ntmps63 results63 λW I O=>?_;repeat'(first|(refine aT [4,7] [4] [(901,6)] [(6,.lptr 901 0)] [(901,some (.box (pK (a,au k,T,false))))] ⟨⟨rfl,rfl⟩,bt,bt⟩ ?_;conv=>whnf)|refine' ak|refine bT P ?_)
 all_goals exact Θ
theorem nP(k:Nat)(h:k<=398):q0e 177 [(au k).av] (ax (.ok (au k))):=by
 obtain⟨_,rfl,p⟩:=kN k Z;obtain⟨_,rfl,P⟩:=kO k h;refine ee func177 ntmps177 results177 λw I a=>?_;repeat'(first|refine' ak|fail)
 all_goals exact Θ
theorem wB(k:Nat)(H:k<=398):q0e 97 [(au k).av] (.bool false):=by
 obtain⟨_,rfl,p⟩:=kO k H;have a:=bb k;have h:(au k).vals.getD (((au k).vals.length:Int)-1).toNat 0=4611686018427387904:=by
  rw[a,bZ Z];exact if_pos Z
 refine ee func97 ntmps97 results97 λw I b=>?_;repeat'(first|refine' ak|fail)
 all_goals first|exact bs|exact Ξ (congrArg AV.bool (by rw[h];rfl))|(rw[h];exact Θ)
theorem wC(f g:Curve)(h:f.vals.length<=400)(H:g.vals.length<=400)(l:Nat)(b:l<=120):q0e 108 [f.av,g.av,J l] (J (((max f.vals.length g.vals.length+l:Nat)):Int)):=by
 refine ee func108 ntmps108 results108 λw I a=>?_;repeat'(first|refine' ak|fail)
 all_goals first|exact ε|(refine Γ ?_;omega)|omega
theorem yu(k:Nat)(l:k<=398)(v:Int)(q:0<=v/\v<=4398046511104):∃r:Nat,(r<=k+1/\v<=(au k).at r/\∀s:Nat,s<r->(au k).at s<v)/\q0e 109 [(au k).av,J v] (H6 (r,true)):=by
 have n:=bb k;have m:=dJ l;refine dp func109 ntmps109 results109 ?_ (hco:=λ_=>⟨tS _ _,by simp,rfl⟩);repeat'(first|refine' aj|fail)
 refine ae (ι:={j:Nat//j<=k+1/\∀s:Nat,s<j->(au k).at s<v}) [1,2] [2] [] ⟨0,χ _,λt p=>Z⟩ (λ⟨j,_⟩=>k+2-j) (λ⟨j,_⟩=>[(6,J j)]) (λ_=>[]) ?_ ?_
 .exact⟨⟨rfl,rfl⟩,bt,bt⟩
 .rintro⟨j,f,a⟩;conv=>whnf
  have H:(j:Int)<(au k).vals.length:=Z;have c:(au k).vals.getD (j:Int).toNat 0=dQ k j:=bZ Z;have d:(au k).at j=dQ k j:=by rw[bH Z];exact c
  by_cases b:(au k).vals.getD (j:Int).toNat 0>=v
  .skip;repeat'(first|(refine U b λhb=>?_;conv=>whnf)|(refine U H λhb=>?_;conv=>whnf)|refine' aj|fail)
   all_goals try exact bs
   exact ag ⟨j,rfl,f,by rw[d,<-c];exact b,a⟩
  .have i:j<=k:=by
    rcases ξ k j with g|g
    .exfalso;apply b;rw[c];unfold dQ cx;rw[if_pos Z];omega
    .exact g
   repeat'(first|(exact aI [] ⟨j+1,Z,λs o=>(ξ s j).elim (a s) λh=>by have e:s=j:=Z;subst e;rw[d,<-c];exact Int.not_le.mp b⟩)|(refine M b λhb=>?_;conv=>whnf)|(refine U H λhb=>?_;conv=>whnf)|refine' aj|fail)
   all_goals try exact bs
theorem BG(c:Curve)(h:Gd c)(k:Nat)(d:k<=398):∃(a:Curve) (l:Nat),(LeastQ c a/\1<=l/\l<=120)/\q0e 103 [c.av,(au k).av] (FQ (.ok (a,au k,l))):=by
 obtain⟨b,C,_⟩:=cY h;obtain⟨y,f,j,H,P⟩:=cC c b;obtain⟨a,rfl⟩:=bU h (H h);obtain⟨q,_⟩:=f a rfl;have n:=nP k d;have i:=q.wf.per;have A:=(q.lim C).per;have m:(au k).per=1:=rfl;obtain⟨l,e,p⟩:=CN a.per.toNat 1 Z Z;have E:l=a.per.toNat:=by have:=e.eq;rw[Nat.gcd_one_right,Nat.div_one,Nat.mul_one]at this;exact this
 rw[(Z:((a.per.toNat:Nat):Int)=a.per)]at p;have p:q0e 178 [J a.per,J (au k).per] (J l):=p;refine⟨a,l,⟨q,Z,Z⟩,?_⟩;refine ee func103 ntmps103 results103 λw I g=>?_;repeat'(first|refine' ak|fail)
 all_goals first|(exfalso;omega)|exact Θ
def Ph(a b:Curve)(W:Nat)(v:Int):Prop:=v=0\/∃t s:Nat,t<W/\s+1=t+v.toNat/\b.at s<a.at t
theorem yv(c:Curve)(H:Gd c)(k:Nat)(e:k<=398):∃x,DevE (E6 c k) (λt=>(au k).at t) x/\q0e 61 [c.av,(au k).av] (zf x):=by
 obtain⟨X,C,_⟩:=cY H;obtain⟨a,l,⟨q,G,u⟩,p0⟩:=BG c H k e;have L:=q.lim C;have P:=q.mono (b5 H);have V:=cL q.wf L P;obtain⟨_,rfl,p1⟩:=bI a V;have p2:=wB k e;have I:=bb k;have A:=L.len;have S:=wC a (au k) A Z l u;obtain⟨W,E⟩:∃W,W=max a.vals.length (au k).vals.length+l:=⟨_,rfl⟩;rw[<-E]at S;have Q:=lG e;have b:=λj:Nat=>b6 (fq q.wf L).1 (fq q.wf L).2 j;refine dp func61 ntmps61 results61 ?_ (hco:=λx=>⟨pL x _,by simp,rfl⟩);repeat'(first|refine' aj|fail)
 refine ae (ι:={p:Nat×Int×Int//p.1<=W/\DevT a (au k) p.1 p.2.1/\Ph a (au k) W p.2.1}) [4,6,7,8,10] [4] [] ⟨(0,0,0),χ _,⟨Int.le_refl 0,η,ψ,.inl rfl⟩,.inl rfl⟩ (λ⟨(j,_),_⟩=>W-j) (λ⟨(j,_),_⟩=>[(11,J j)])
  (λ⟨(_,v,w),_⟩=>[(6,some (.box a.cells)),(7,some (.box (au k).cells)),(10,some (.box [.bool false,J v,J w]))]) ?_ ?_
 .exact⟨⟨rfl,rfl⟩,bt,bt⟩
 .rintro⟨⟨j,v,w⟩,F,f,n⟩;dsimp only at F f n;conv=>whnf
  by_cases d:(j:Int)<(W:Int)
  .have q1:=bC a q.wf j Z;have D:=b j;obtain⟨r,⟨N,z,i⟩,q2⟩:=yu k e (a.at j) Z;obtain⟨R,n2⟩:=f.next Q (r:=r) Z z (λs hs=>i s Z);by_cases H:(r:Int)-(j:Int)>v
   .have y:=R H;have o:Ph a (au k) W ((r:Int)-(j:Int)):=.inr ⟨j,r-1,Z,by have:=f.pos;omega,i (r-1) (by have:=f.pos;omega)⟩;repeat'(first|(exact aI [] ⟨(j+1,(r:Int)-(j:Int),(j:Int)),κ,y,o⟩)|(refine U H λhb=>?_;conv=>whnf)|(refine U d λhb=>?_;conv=>whnf)|refine' aj|fail)
    all_goals try exact bs
   .have y:=n2 H;repeat'(first|(exact aI [] ⟨(j+1,v,w),κ,y,n⟩)|(refine M H λhb=>?_;conv=>whnf)|(refine U d λhb=>?_;conv=>whnf)|refine' aj|fail)
    all_goals try exact bs
  .obtain rfl:j=W:=Z;repeat'(first|(refine M d λhb=>?_;conv=>whnf)|refine' aj|fail)
   have K:=f.pos;refine ag ⟨.ok (false,v,w),rfl,nofun,λ_=>⟨K,λt=>?_,?_⟩⟩
   .dsimp only;unfold E6;rcases ξ k t with g|g
    .rw[if_neg Z,dJ e];unfold cx;split<;>omega
    .rw[if_pos g,<-q.same];exact f.le t Z
   .rcases n with h|⟨t,s,h0,B,m⟩
    .exact .inl κ
    .by_cases O:v=0
     .exact .inl κ
     refine .inr ⟨t,s,B,?_⟩;unfold E6;rcases ξ k t with g|g
     .exfalso;rw[dJ e,if_neg Z]at m;have:=b t;unfold cx at m;omega
     .rw[if_pos g,<-q.same];exact m
theorem DW{G:Nat->List AV}(h:∀i,i<3->∀ids,ka ids (G i)=true):∀q∈[(40,LObj.arr 3 1 G 3)],eu ([(40,LObj.arr 3 1 G 3)].map (·.1)) q.2:=λq hq=>by
 simp only[List.mem_cons,List.not_mem_nil,or_false]at hq;subst hq;exactλi H=>h i H _
theorem DX(G:Nat->List AV)(y:Int)(c:G 0=[J 0])(b:G 1=[J 1])(d:G 2=[J y])(f:y≠1):bx 243 [.osl 40 3] [(40,.arr 3 1 G 3)] (.osl 40 3) [(40,.arr 3 1 G 3)]:=by
 have a:∀i,i<3->∀ids,ka ids (G i)=true:=λi H ids=>by
  rcases(Z:i=0\/i=1\/i=2)with rfl|rfl|rfl
  .rw[c];rfl
  .rw[b];rfl
  .rw[d];rfl
 have hcl:=DW (G:=G) a;suffices h:∃x:Unit,True/\bx 243 [.osl 40 3] [(40,.arr 3 1 G 3)] (.osl 40 3) [(40,.arr 3 1 G 3)]from by
  obtain⟨_,_,h⟩:=h;exact h
 refine dp func243 ntmps243 results243 ?_ (hcl:=⟨rfl,rfl,hcl⟩) (hco:=λx=>⟨rfl,hcl,rfl⟩);repeat'(first|refine' aj|fail)
 refine ae (ι:={j:Nat//j=1\/j=2\/j=3}) [0] [40] [] ⟨1,.inl rfl⟩ (λ⟨j,_⟩=>3-j) (λ⟨j,_⟩=>[(3,J j)]) (λ_=>[]) ?_ ?_
 .refine⟨⟨rfl,rfl⟩,?_,?_⟩;all_goals((refine' subP)<;>first|exactλi H=>a i H _|exact bt)
 .rintro⟨j,e⟩;rcases e with rfl|rfl|rfl
  .conv=>whnf
   repeat'(first|(refine' aO [] ⟨2,.inr (.inl rfl)⟩<;>first|exactλi H=>a i H _|exact bt)|(refine VCells.mk ⟨_,b,?_⟩;conv=>whnf)|(refine VCells.mk ⟨_,c,?_⟩;conv=>whnf)|refine' aj|fail)
   all_goals try exact bs
  .conv=>whnf
   repeat'(first|(refine' aO [] ⟨3,.inr (.inr rfl)⟩<;>first|exactλi H=>a i H _|exact bt)|(refine M f λhb=>?_;conv=>whnf)|(refine VCells.mk ⟨_,d,?_⟩;conv=>whnf)|(refine VCells.mk ⟨_,b,?_⟩;conv=>whnf)|refine' aj|fail)
   all_goals try exact bs
  .conv=>whnf
   repeat'(first|refine' aj|fail)
   all_goals try exact bs
   exact aK ⟨(),rfl,⟨rfl,trivial⟩,trivial⟩
theorem DY(G:Nat->List AV)(d:G 0=[J 0])(c:G 1=[J 1])(e:G 2=[J 1]):bx 243 [.osl 40 3] [(40,.arr 3 1 G 3)] (.osl 40 2) [(40,.arr 3 1 (λi=>bif Nat.beq i 2 then[J 0]else G i) 3)]:=by
 have a:∀i,i<3->∀ids,ka ids (G i)=true:=λi H ids=>by
  rcases(Z:i=0\/i=1\/i=2)with rfl|rfl|rfl
  .rw[d];rfl
  .rw[c];rfl
  .rw[e];rfl
 have hcl:=DW (G:=G) a;have b:=DW (G:=λi=>bif Nat.beq i 2 then[J 0]else G i) λi H ids=>by
  rcases(Z:i=0\/i=1\/i=2)with rfl|rfl|rfl
  .exact a 0 η ids
  .exact a 1 η ids
  .rfl
 suffices h:∃x:Unit,True/\bx 243 [.osl 40 3] [(40,.arr 3 1 G 3)] (.osl 40 2) [(40,.arr 3 1 (λi=>bif Nat.beq i 2 then[J 0]else G i) 3)]from by
  obtain⟨_,_,h⟩:=h;exact h
 refine dp func243 ntmps243 results243 ?_ (hcl:=⟨rfl,rfl,hcl⟩) (hco:=λx=>⟨rfl,b,rfl⟩);repeat'(first|refine' aj|fail)
 refine ae (ι:={j:Nat//j=1\/j=2}) [0] [40] [] ⟨1,.inl rfl⟩ (λ⟨j,_⟩=>3-j) (λ⟨j,_⟩=>[(3,J j)]) (λ_=>[]) ?_ ?_
 .refine⟨⟨rfl,rfl⟩,?_,?_⟩;all_goals((refine' subP)<;>first|exactλi H=>a i H _|exact bt)
 .rintro⟨j,f⟩;rcases f with rfl|rfl
  .conv=>whnf
   repeat'(first|(refine' aO [] ⟨2,.inr rfl⟩<;>first|exactλi H=>a i H _|exact bt)|(refine VCells.mk ⟨_,c,?_⟩;conv=>whnf)|(refine VCells.mk ⟨_,d,?_⟩;conv=>whnf)|refine' aj|fail)
   all_goals try exact bs
  .conv=>whnf
   repeat'(first|(refine VCells.mk ⟨_,e,?_⟩;conv=>whnf)|(refine VCells.mk ⟨_,c,?_⟩;conv=>whnf)|refine' aj|fail)
   all_goals try exact bs
   refine ae (ι:=Unit) [0,3,4] [40] [] () (λ_=>0) (λ_=>[(5,J 1)]) (λ_=>[]) ?_ ?_
   .refine⟨⟨rfl,rfl⟩,?_,?_⟩;all_goals((refine' subP)<;>first|exactλi H=>a i H _|exact bt)
   .rintro⟨⟩;conv=>whnf
    repeat'(first|refine' aj|fail)
    all_goals try first|exact bs|decide
    exact aK ⟨(),rfl,⟨rfl,trivial⟩,trivial⟩
def K3(x:Int):List Int:=if x=0 then[0,1]else[0,1,1+x]
def dd(n:Net)(d:Xa)(i k:Nat):Except Int (List Int) :=
 if(d.getD ((n.flows.getD i default).route.getD k 0).toNat []).getD (n.flows.getD i default).class_.toNat 0<0 then .error 5
 else .ok (K3 ((d.getD ((n.flows.getD i default).route.getD k 0).toNat []).getD (n.flows.getD i default).class_.toNat 0))
def OH:Except Int (List Int)->AV
 |.ok l=>.tup [c4 l,J 0]
 |.error e=>.tup [.nils,J e]
theorem OL{p:Nat->Prop}(h:p 0)(H:p 1):∀i,i<2->p i:=λi a=>by
 match i with
 |0=>exact h
 |1=>exact H
 |i+2=>omega
theorem Pw{p:Nat->Prop}(h:p 0)(H:p 1)(a:p 2):∀i,i<3->p i:=λi b=>by
 match i with
 |0=>exact h
 |1=>exact H
 |2=>exact a
 |i+3=>omega
theorem DZ(n:Net)(d:Xa)(h:NetOk n)(b:ShapeOk n d)(i k:Nat)(f:i<n.flows.length)(e:k<(n.flows.getD i default).route.length) :
  q0e 194 [n.av,aF d,J i,J k] (OH (dd n d i k)):=by
 have H:FlowOk n.lines (n.flows.getD i default):=h.flow _ (by simp[f]);have o:=H.lines _ (a9 (l:=(n.flows.getD i default).route) (i:=k) e);have q:=H.cls2 _ (a9 (l:=(n.flows.getD i default).route) (i:=k) e);have m:=H.cls;have r:=b.row ((n.flows.getD i default).route.getD k 0).toNat Z;have g:=b.len;have s:=b.val ((n.flows.getD i default).route.getD k 0).toNat (n.flows.getD i default).class_.toNat Z Z;have p:=mQ n d h b i k f e;unfold dd;by_cases c:(d.getD ((n.flows.getD i default).route.getD k 0).toNat []).getD (n.flows.getD i default).class_.toNat 0<0
 .rw[if_pos c];refine ee func194 ntmps194 results194 λw I a=>?_;repeat'(first|(refine U c λhb=>?_;conv=>whnf)|refine' ak|fail)
  all_goals first|exact Θ|(simp only[β]at *;omega)|(exfalso;omega)|omega
 .rw[if_neg c];unfold K3;by_cases C:(d.getD ((n.flows.getD i default).route.getD k 0).toNat []).getD (n.flows.getD i default).class_.toNat 0=0
  .rw[if_pos C];refine ee func194 ntmps194 results194 λw I a=>?_;repeat'(first|(refine M c λhb=>?_;conv=>whnf)|refine' gi|(refine b8 [8,9] [] [] [] [(40,some (.arr 3 1 (λj=>[J ([(0:Int),1,0].getD j 0)]) 3))] ⟨⟨rfl,rfl⟩,?_,?_⟩ (cq 40 rfl rfl (λ_ _=>rfl) ?_ ?_ (du ?_)))|refine ab p ?_|(refine⟨_,_,_,DY _ ?_ ?_ ?_,⟨rfl,trivial⟩,⟨trivial,trivial⟩,?_⟩;rotate_left;rotate_left;rotate_left;conv=>whnf))
   all_goals try first|exact Θ|(simp only[β]at *;omega)|(exfalso;omega)|exact bs|(simp only[β];unfold ah;omega)|rfl
   .skip;all_goals((refine' subP)<;>first|exact fl rfl (Pw rfl rfl rfl)|exact bt)
   .skip;all_goals exact bt
   .repeat'(first|exact True.intro|exact(by decide:2<=3)|exact π _|exact⟨π _,rfl⟩|refine And.intro ?_ ?_|refineλ_ _=>?_)
   .all_goals try refine' frzZ
   .conv=>whnf
    exact AvLe.tup (.cons (kd rfl (OL rfl rfl)) (.cons Θ .nil))
   .exact congrArg (λz=>[J (1+z)]) C
  .rw[if_neg C];refine ee func194 ntmps194 results194 λw I a=>?_;repeat'(first|(refine M c λhb=>?_;conv=>whnf)|refine' gi|(refine b8 [8,9] [] [] [] [(40,some (.arr 3 1 (λj=>[J ([(0:Int),1,1+(d.getD ((n.flows.getD i default).route.getD k 0).toNat []).getD (n.flows.getD i default).class_.toNat 0].getD j 0)]) 3))] ⟨⟨rfl,rfl⟩,?_,?_⟩ (cq 40 rfl rfl (λ_ _=>rfl) ?_ ?_ (du ?_)))|refine ab p ?_|(refine⟨_,_,_,DX _ (1+(d.getD ((n.flows.getD i default).route.getD k 0).toNat []).getD (n.flows.getD i default).class_.toNat 0) ?_ ?_ ?_ Z,⟨rfl,trivial⟩,⟨trivial,trivial⟩,?_⟩;rotate_left;rotate_left;rotate_left;conv=>whnf))
   all_goals try first|exact Θ|(simp only[β]at *;omega)|(exfalso;omega)|exact bs|(simp only[β];unfold ah;omega)|rfl
   .skip;all_goals((refine' subP)<;>first|exact fl rfl (Pw rfl rfl rfl)|exact bt)
   .skip;all_goals exact bt
   .repeat'(first|exact True.intro|exact(by decide:2<=3)|exact π _|exact⟨π _,rfl⟩|refine And.intro ?_ ?_|refineλ_ _=>?_)
   .all_goals try refine' frzZ
theorem GI(n:Net)(d:Xa)(h:NetOk n)(m:NamesOk n)(b:ShapeOk n d)(i k:Nat)(f:i<n.flows.length)(e:k<(n.flows.getD i default).route.length) :
  q0e 35 [n.av,aF d,J i,J k] (OH (dd n d i k)):=by
 have H:FlowOk n.lines (n.flows.getD i default):=h.flow _ (by simp[f]);have q:=H.lines _ (a9 (l:=(n.flows.getD i default).route) (i:=k) e);have r:=H.cls2 _ (a9 (l:=(n.flows.getD i default).route) (i:=k) e);have o:=H.cls;have s:=b.row ((n.flows.getD i default).route.getD k 0).toNat Z;have g:=b.len;have t:=b.val ((n.flows.getD i default).route.getD k 0).toNat (n.flows.getD i default).class_.toNat Z Z;obtain⟨_,rfl,p⟩:=cb n d h m b;have P:=uu n h i k f e;unfold dd;by_cases c:(d.getD ((n.flows.getD i default).route.getD k 0).toNat []).getD (n.flows.getD i default).class_.toNat 0<0
 .rw[if_pos c];refine ee func35 ntmps35 results35 λw I a=>?_;repeat'(first|(refine U c λhb=>?_;conv=>whnf)|refine' ak|fail)
  all_goals first|exact Θ|(simp only[β]at *;omega)|(exfalso;omega)|omega
 .rw[if_neg c];unfold K3;by_cases C:(d.getD ((n.flows.getD i default).route.getD k 0).toNat []).getD (n.flows.getD i default).class_.toNat 0=0
  .rw[if_pos C];refine ee func35 ntmps35 results35 λw I a=>?_;repeat'(first|(refine U C λhb=>?_;conv=>whnf)|(refine M c λhb=>?_;conv=>whnf)|refine' gi|(refine b8 [8,9] [] [] [] [(43,some (.arr 2 1 (λj=>[J ([(0:Int),1].getD j 0)]) 3))] ⟨⟨rfl,rfl⟩,?_,?_⟩ (cq 43 rfl rfl (λ_ _=>rfl) ?_ ?_ (du ?_)))|refine ab p ?_|refine ab P ?_)
   all_goals try first|exact Θ|(simp only[β]at *;omega)|(exfalso;omega)|exact bs|(simp only[β];unfold ah;omega)|rfl
   .skip;all_goals((refine' subP)<;>first|exact fl rfl (OL rfl rfl)|exact bt)
   .skip;all_goals exact bt
   .repeat'(first|exact True.intro|exact(by decide:2<=3)|exact π _|exact⟨π _,rfl⟩|refine And.intro ?_ ?_|refineλ_ _=>?_)
   .all_goals try refine' frzZ
  .rw[if_neg C];refine ee func35 ntmps35 results35 λw I a=>?_;repeat'(first|(refine M C λhb=>?_;conv=>whnf)|(refine M c λhb=>?_;conv=>whnf)|refine' gi|(refine b8 [8,9] [] [] [] [(46,some (.arr 3 1 (λj=>[J ([(0:Int),1,1+(d.getD ((n.flows.getD i default).route.getD k 0).toNat []).getD (n.flows.getD i default).class_.toNat 0].getD j 0)]) 3))] ⟨⟨rfl,rfl⟩,?_,?_⟩ (cq 46 rfl rfl (λ_ _=>rfl) ?_ ?_ (du ?_)))|refine ab p ?_|refine ab P ?_)
   all_goals try first|exact Θ|(simp only[β]at *;omega)|(exfalso;omega)|exact bs|(simp only[β];unfold ah;omega)|rfl
   .skip;all_goals((refine' subP)<;>first|exact fl rfl (Pw rfl rfl rfl)|exact bt)
   .skip;all_goals exact bt
   .repeat'(first|exact True.intro|exact(by decide:2<=3)|exact π _|exact⟨π _,rfl⟩|refine And.intro ?_ ?_|refineλ_ _=>?_)
   .all_goals try refine' frzZ
theorem Ea{c d:Curve}(f:Gd c)(g:Gd d){θ:Int}{z:Curve}(h:fJ c d θ=.ok z):Gd z:=by
 unfold fJ at h;rw[dif_pos ⟨f,g⟩]at h;have j:=(Classical.choose_spec (i5 c d f g θ)).1;rw[h]at j;have H:=j f g;split at H
 .obtain⟨a,b,_,_,e⟩:=H;split at e
  .exact e.gd λs t i=>iM i
  .cases e
 .cases H
theorem GJ{n:Net}{d:Xa}(h:NetOk n)(j:NamesOk n)(f:ShapeOk n d){i k:Nat}(p:i<n.flows.length)(g:k<(n.flows.getD i default).route.length){θ:Int}:(∀z,nS n d i k θ=.ok z->Gd z)/\∀e,nS n d i k θ=.error e->e≠0:=by
 have H:FlowOk n.lines (n.flows.getD i default):=h.flow _ (by simp[p]);have m:=H.lines _ (a9 (l:=(n.flows.getD i default).route) (i:=k) g);have r:=H.cls2 _ (a9 (l:=(n.flows.getD i default).route) (i:=k) g);have q:=H.cls;unfold nS;rcases ho:dK n d i ((n.flows.getD i default).route.getD k 0) (n.flows.getD i default).class_ with e|o
 .exact⟨λz c=>(by cases c),λe a=>by cases a;exact ni h f ho⟩
 .have G:=jU h j f p g ho;dsimp only;rcases hb:C7 n d ((n.flows.getD i default).route.getD k 0) (n.flows.getD i default).class_.toNat with e|b
  .exact⟨λz c=>(by cases c),λe a=>by cases a;exact DV h j f m Z hb⟩
  .have gb:=yr h j f m Z hb;exact⟨λz c=>Ea gb G c,λe a=>DU gb G a⟩
theorem nj{n:Net}{d:Xa}(h:NetOk n)(j:NamesOk n)(b:ShapeOk n d){i k:Nat}(f:i<n.flows.length)(g:k<(n.flows.getD i default).route.length){c:Int} :
  (∀z,bq n d i k c=.ok z->Gd z\/∃q:Nat,q<=398/\z=au q)/\∀e,bq n d i k c=.error e->e≠0:=by
 obtain⟨r,R⟩:=GJ h j b f g (θ:=c-1);unfold bq;split
 .exact⟨λz H=>(by cases H),λe a=>by cases a;decide⟩
 .split
  .exact⟨λz H=>.inl (r z H),R⟩
  .split
   .exact⟨λz H=>(by cases H),λe a=>by cases a;decide⟩
   .unfold yq;split
    .exact⟨λz H=>by cases H;exact .inr ⟨_,Z,rfl⟩,λe a=>by cases a⟩
    .exact⟨λz H=>(by cases H),λe a=>by cases a;decide⟩
end Go.Nc