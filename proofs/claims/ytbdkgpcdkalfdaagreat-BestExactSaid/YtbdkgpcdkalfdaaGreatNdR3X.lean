/- Parts. -/
import Derived.Test.YtbdkgpcdkalfdaaGreatNdR7X
import Derived.Test.YtbdkgpcdkalfdaaGreatNdCXB
namespace Go.Nc
open Go.Proofs.Tryz
open Go.Proofs
set_option maxHeartbeats 8000000
theorem Jx(n:Net)(d:Xa)(h:NetOk n)(t:NamesOk n)(s:ShapeOk n d)(i:Nat)(k:i<n.flows.length)(c:List Int)(C:c.length=(n.flows.getD i default).route.length)(u:∀x∈c,ah x) :
  ∃x,x=gK n d i c c.length/\q0e 18 [n.av,aF d,J i,c4 c] (Kk x):=by
 have q:FlowOk n.lines (n.flows.getD i default):=h.flow _ (by simp[k]);obtain⟨_,rfl,I⟩:=cb n d h t s;have H:=q.sizes;have F:=q.ne;have D:=h.flen;have E:(n.flows.getD (i:Int).toNat default).route.length=c.length:=C.symm;refine dp func18 ntmps18 results18 ?_ (hco:=λx=>⟨tQ x _,by simp,rfl⟩);repeat'(first|refine' aj|fail)
 all_goals try exact ariB
 refine⟨aV (λ_ _ _=>bQ 10 100 3 45 rfl rfl rfl) (ae (ι:={l:List Curve//l.length<=c.length/\gK n d i c l.length=.ok l}) [1,2,3,4] [4] [] ⟨[],χ _,rfl⟩ (λ⟨l,_⟩=>c.length-l.length) (λ⟨l,_⟩=>[(10,.osl 100 l.length),(11,J l.length)]) (λ⟨l,_⟩=>[(100,some (.arr l.length 3 (ey Curve.cells c0 l) 45))]) ?_ ?_).good⟩
 .refine⟨⟨rfl,rfl⟩,?_,?_⟩;all_goals((refine' subP)<;>first|exact fl rfl (ψ)|exact bt)
 .rintro⟨l,G,w⟩;conv=>whnf
  by_cases j:(l.length:Int)<c.length
  .have v : l.length<(n.flows.getD i default).route.length:=Z;have a:o5 n d i c l.length=match bq n d i l.length (c.getD l.length 0)with |.error e=>.error e|.ok z=>if l.length+1<c.length then n4 z ((n.flows.getD i default).most-1)else .ok z:=rfl
   have P:=sI n d h t s i l.length k v (c.getD l.length 0) (u _ (a9 Z));have f:=sO w;have o:∀e:Int,o5 n d i c l.length=.error e->Except.error e=gK n d i c c.length:=λe g=>by
    rw[g]at f;have:=qF (m:=c.length-(l.length+1)) f;rw[(Z:l.length+1+(c.length-(l.length+1))=c.length)]at this;exact this.symm
   rcases hx:bq n d i l.length (c.getD l.length 0)with e|z
   .have y:=(nj h t s k v (c:=c.getD l.length 0)).2 e hx;rw[hx]at P a;repeat'(first|(refine ϑ y λhb=>?_;conv=>whnf)|(refine M y λhb=>?_;conv=>whnf)|(refine U j λhb=>?_;conv=>whnf)|refine' aj|fail)
    all_goals try exact bs
    exact ag ⟨.error e,rfl,o e a⟩
   .rw[hx]at P a;dsimp only at a;have r:=fv h t s k v hx;have H:∀z,(l++[z]).length=l.length+1:=λz=>by simp
    by_cases b:(l.length:Int)+1<(c.length:Int)
    .have A:=Fs z r (n.flows.getD i default).most Z;rw[if_pos Z]at a;rcases hX2:n4 z ((n.flows.getD i default).most-1)with e|B
     .rw[hX2]at A a;obtain rfl:=nr r hX2;repeat'(first|(refine U b λhb=>?_;conv=>whnf)|(refine U j λhb=>?_;conv=>whnf)|refine' aj|fail)
      all_goals try exact bs
      exact ag ⟨.error 3,rfl,o 3 a⟩
     .rw[hX2]at A a;rw[a]at f;repeat'(first|(refine U b λhb=>?_;conv=>whnf)|(refine U j λhb=>?_;conv=>whnf)|refine' aj|fail)
      all_goals try first|exact bs|exact⟨π _,aL Z rfl⟩
      refine aQ [(100,84)] ⟨l++[B],by rw[H];omega,by rw[H];exact f⟩ ⟨⟨rfl,rfl⟩,?_,?_⟩ (by dsimp only;rw[H];omega)
      .skip;all_goals((refine' subP)<;>first|exact fl (H _).symm λi k=>b9 Curve.cells c0 l B rfl i k _ (λe=>by subst e;simp;rfl)|exact bt)
      .skip;all_goals((refine' subP)<;>first|exact Ξ (congrArg (AV.osl 84) (H _).symm)|exact Γ (by rw[H];rfl)|exact bt)
    .rw[if_neg Z]at a;rw[a]at f;repeat'(first|(refine M b λhb=>?_;conv=>whnf)|(refine U j λhb=>?_;conv=>whnf)|refine' aj|fail)
     all_goals try first|exact bs|exact⟨π _,aL Z rfl⟩
     refine aQ [(100,84)] ⟨l++[z],by rw[H];omega,by rw[H];exact f⟩ ⟨⟨rfl,rfl⟩,?_,?_⟩ (by dsimp only;rw[H];omega)
     .skip;all_goals((refine' subP)<;>first|exact fl (H _).symm λi k=>b9 Curve.cells c0 l z rfl i k _ (λe=>by subst e;simp;rfl)|exact bt)
     .skip;all_goals((refine' subP)<;>first|exact Ξ (congrArg (AV.osl 84) (H _).symm)|exact Γ (by rw[H];rfl)|exact bt)
  .have p:Except.ok l=gK n d i c c.length:=by rw[(Z:c.length=l.length)];exact w.symm
   repeat'(first|(refine M j λhb=>?_;conv=>whnf)|refine' aj|fail)
   all_goals try exact bs
   refine aW [8,9] [100] [] [] [] ⟨⟨rfl,rfl⟩,?_,?_⟩ (aX 100 rfl rfl (λ_ _=>rfl) ?_ ?_ (bO ?_))
   .skip;all_goals exact bt
   .skip;all_goals exact bt
   .all_goals try refine' frzZ
   .exact⟨λi k=>⟨trivial,trivial,trivial,trivial⟩,trivial⟩
   .conv=>whnf
    refine⟨.ok l,AvLe.tup (.cons (kd rfl λi k=>rfl) (.cons Θ .nil)),p⟩
theorem Jy(n:Net)(d:Xa)(h:NetOk n)(A:NamesOk n)(g:ShapeOk n d)(i:Nat)(b:i<n.flows.length)(c:List Int)(D:c.length=(n.flows.getD i default).route.length)(u:∀x∈c,ah x) :
  ∃x,x=gL n d i c/\q0e 21 [n.av,aF d,J i,c4 c] (PB x):=by
 have t:FlowOk n.lines (n.flows.getD i default):=h.flow _ (by simp[b]);have v:=t.ne;obtain⟨x,q,Q⟩:=Jx n d h A g i b c D u;obtain⟨y,E⟩:∃y,y=gL n d i c:=⟨_,rfl⟩;rw[<-E];unfold gL at E;rw[<-q]at E;rcases x with e|l
 .have F:=Ad h A g b Z q.symm;subst E;refine⟨.error e,rfl,?_⟩;refine' db func21 ntmps21 results21
  all_goals first|exact absurd ‹_› F|exact Θ
 .obtain⟨C,_⟩:=oA q.symm;have m:=sN h A g b Z q.symm;rcases l with _|⟨a,r⟩
  .simp only[List.length_nil]at C;omega
  .have N := m a ν;have O:∀x∈r,a6 x:=λy L=>m y (by simp[L]);have I:(((a::r).length:Nat):Int)=(r.length:Nat)+1:=by simp
   have K:r.length<=4:=Z;have E:y=fx a r []:=E;rw[E];clear m q v E;refine dp func21 ntmps21 results21 ?_ (hco:=λx=>⟨Nn x _,by simp,rfl⟩);repeat'(first|refine' aj|fail)
   all_goals try exact ariB
   refine⟨aV (λ_ _ _=>bQ 14 100 5 65 rfl rfl rfl) (ae (ι:={x:Nat×Curve×List Spl//x.1<=r.length/\a6 x.2.1/\x.2.2.length=x.1/\fx a r []=fx x.2.1 (r.drop x.1) x.2.2}) [8,11,13] [8] [] ⟨(0,a,[]),χ _,N,rfl,rfl⟩ (λ⟨(j,_,_),_⟩=>r.length-j) (λ⟨(j,_,ps),_⟩=>[(14,.osl 100 ps.length),(15,J ((j:Int)+1))]) (λ⟨(_,z,ps),_⟩=>[(13,some (.box z.cells)),(100,some (.arr ps.length 5 (ey Spl.cells default ps) 65))]) ?_ ?_).good⟩
   .refine⟨⟨rfl,rfl⟩,?_,?_⟩;all_goals((refine' subP)<;>first|exact fl rfl (ψ)|exact bt)
   .rintro⟨⟨j,z,ps⟩,G,B,w,s⟩;dsimp only at G B w s;conv=>whnf
    by_cases f:(j:Int)+1<((a::r).length:Nat)
    .have hb:a6 (r.getD j c0):=O _ (by simp[(Z:j<r.length)]);have P:=Jw z (r.getD j c0) B hb;have g:=Er (l:=r) (j:=j) Z;have H:fx a r []=match bY z (r.getD j c0)with |.error e=>.error e|.ok p=>fx p.res (r.drop (j+1)) (ps++[p]):=by rw[s,g];rfl
     rcases hp:bY z (r.getD j c0)with e|p
     .rw[hp]at P H;obtain rfl:=mn (nq hp);repeat'(first|(refine U f λhb=>?_;conv=>whnf)|refine' aj|fail)
      all_goals try exact bs
      exact ag ⟨.error 3,rfl,H.symm⟩
     .rw[hp]at P H;have m:a6 p.res:=(dL B hb (ml hp).1).1;have o:(ps++[p]).length=ps.length+1:=by simp
      repeat'(first|(refine U f λhb=>?_;conv=>whnf)|refine' aj|fail)
      all_goals try first|exact bs|exact⟨π _,aL Z rfl⟩
      refine aQ [(100,55)] ⟨(j+1,p.res,ps++[p]),κ,m,κ,H⟩ ⟨⟨rfl,rfl⟩,?_,?_⟩ κ
      .skip;all_goals((refine' subP)<;>first|exact fl o.symm λi b=>b9 Spl.cells default ps p rfl i b _ (λe=>by subst e;simp;rfl)|exact bt)
      .skip;all_goals((refine' subP)<;>first|exact Ξ (congrArg (AV.osl 55) o.symm)|exact bt)
    .have k:Except.ok (z,ps)=fx a r []:=by rw[s,List.drop_eq_nil_of_le Z];rfl
     repeat'(first|(refine M f λhb=>?_;conv=>whnf)|refine' aj|fail)
     all_goals try exact bs
     refine aW [8,9,10] [8,100] [] [] [] ⟨⟨rfl,rfl⟩,?_,?_⟩ (aX 100 rfl rfl (λ_ _=>rfl) ?_ ?_ (bO ?_))
     .skip;all_goals exact bt
     .skip;all_goals exact bt
     .all_goals try refine' frzZ
     .all_goals try refine' frzZ
     .conv=>whnf
      refine⟨.ok (z,ps),AvLe.tup (.cons Θ (.cons (kd rfl λi b=>rfl) (.cons Θ .nil))),k⟩
theorem Ht(n:Net)(d:Xa)(h:NetOk n)(f:NamesOk n)(b:ShapeOk n d)(i:Nat)(e:i<n.flows.length)(c:List Int)(a:c.length=(n.flows.getD i default).route.length)(H:∀x∈c,ah x) :
  q0e 21 [n.av,aF d,J i,c4 c] (PB (gL n d i c)):=by
 obtain⟨_,rfl,p⟩:=Jy n d h f b i e c a H;exact p
structure RDelF(a:Curve)(R:Curve->Except Int eK):Prop where
 spec:∀z,a6 z->q0e 61 [a.av,z.av] (zf (R z))
 err:∀z e,a6 z->R z=.error e->e≠0
theorem BU(n:Net)(d:Xa)(h:NetOk n)(l:NamesOk n)(g:ShapeOk n d)(i:Nat)(j:i<n.flows.length)(c:List Int)(f:c.length=(n.flows.getD i default).route.length)(k:∀x∈c,ah x)(R:Curve->Except Int eK)(m:RDelF (n.flows.getD i default).con R) :
  q0e 23 [n.av,aF d,J i,c4 c] (odR (y6 (gL n d i c) R)):=by
 have p:=Ht n d h l g i j c f k;rcases hp:gL n d i c with e|⟨z,ps⟩
 .have H:=Ae h l g j f hp;rw[hp]at p;refine' db func23 ntmps23 results23
  all_goals first|exact absurd ‹_› H|exact Θ
 .rw[hp]at p;have o:=(u9 h l g j f hp).kind;have P:=m.spec z o;have H:=m.err z;show CallSpec _ _ _ _ (odR (match dS (R z)with |.error e=>.error e|.ok v=>.ok (v,ps))) [];obtain⟨x,E⟩:∃x,x=R z:=⟨_,rfl⟩;rw[<-E]at P H⊢;clear E;rcases x with e|⟨b,v,w⟩
  .have H:=H e o rfl;refine' db func23 ntmps23 results23
   all_goals first|exact absurd ‹_› H|exact Θ|omega
  .rcases b with _|_
   .by_cases a:v>2000
    .rw[show dS (.ok (false,v,w))=.error 5 from if_pos (.inr a)];refine ee func23 ntmps23 results23 λ_ _ _=>?_;repeat'(first|(refine U a λhb=>?_;conv=>whnf)|refine' ak|fail)
     all_goals first|exact Θ|omega
    .rw[show dS (.ok (false,v,w))=.ok v from if_neg (by rintro(h|h);cases h;exact a h)];refine ee func23 ntmps23 results23 λ_ _ _=>?_;repeat'(first|(refine M a λhb=>?_;conv=>whnf)|refine' ak|fail)
     all_goals first|exact Θ|omega
   .rw[ns];refine' db func23 ntmps23 results23
    all_goals first|exact Θ|omega
theorem Hu(a:Curve)(h:Gd a):∃R,DelX a R/\∀z,a6 z->q0e 61 [a.av,z.av] (zf (R z)):=by
 obtain⟨c,C,f⟩:=cY h;exact sS (a:=a) (S:=fun z x=>q0e 61 [a.av,z.av] (zf x)) (fun z b=>by
  obtain⟨d,D,g⟩:=cY b.gd;obtain⟨y,⟨_,H⟩,q⟩:=jy a z c C (b5 h) d D (b5 b.gd);exact ⟨y,H h b.gd,q⟩) (fun k e=>by
  obtain⟨y,H,q⟩:=yv a h k e;exact⟨y,H,q⟩)
theorem DelX.of{a b:Curve}{R:Curve->Except Int eK}(h:DelX a R)(e:∀t:Nat,a.at t=b.at t):DelX b R:=by
 have E:(λt:Nat=>a.at t)=λt:Nat=>b.at t:=funext e;have c:∀k,E6 a k=E6 b k:=λk=>funext λt=>by unfold E6;rw[e]
 refine⟨λz d=>?_,λk H=>by rw[<-c];exact h.wait k H⟩;have:=h.nrm z d;unfold DelS at *;rw[E]at this;exact this
end Go.Nc