/- Parts. -/
import Derived.Test.YtooapceogfengaaGreatNdR7X
import Derived.Test.YtooapceogfengaaGreatNdCXB
namespace Go.Nc
open Go.Proofs.Tryz
open Go.Proofs
set_option maxHeartbeats 8000000
theorem F2(n:Net)(d:Xa)(h:NetOk n)(t:NamesOk n)(s:ShapeOk n d)(i:Nat)(k:i<n.flows.length)(c:List Int)(C:c.length=(n.flows.getD i default).route.length)(u:∀x∈c,ah x) :
  ∃x,x=dW n d i c c.length/\bx 83 [n.av,aB d,J i,c4 c] (Kk x):=by
 have q:FlowOk n.lines (n.flows.getD i default):=h.flow _ (by simp[k]);obtain⟨_,rfl,I⟩:=co n d h t s;have H:=q.sizes;have F:=q.ne;have D:=h.flen;have E:(n.flows.getD (i:Int).toNat default).route.length=c.length:=C.symm;refine dp func83 ntmps83 results83 ?_ (hco:=λx=>⟨pT x _,by simp,rfl⟩);repeat'(first|refine' ag|fail)
 all_goals try exact ez
 refine⟨aQ (λ_ _ _=>cj 10 100 3 67 rfl rfl rfl) (ae (ι:={l:List Curve//l.length<=c.length/\dW n d i c l.length=.ok l}) [1,2,3,4] [4] [] ⟨[],π _,rfl⟩ (λ⟨l,_⟩=>c.length-l.length) (λ⟨l,_⟩=>[(10,.osl 100 l.length),(11,J l.length)]) (λ⟨l,_⟩=>[(100,some (.arr l.length 3 (ey Curve.cells c0 l) 67))]) ?_ ?_).good⟩
 .refine⟨⟨rfl,rfl⟩,?_,?_⟩;all_goals((refine' b9)<;>first|exact cy rfl (ν)|exact bt)
 .rintro⟨l,G,w⟩;conv=>whnf
  by_cases j:(l.length:Int)<c.length
  .have v : l.length<(n.flows.getD i default).route.length:=Z;have a:o5 n d i c l.length=match bu n d i l.length (c.getD l.length 0)with |.error e=>.error e|.ok z=>if l.length+1<c.length then n4 z ((n.flows.getD i default).most-1)else .ok z:=rfl
   have P:=sV n d h t s i l.length k v (c.getD l.length 0) (u _ (a8 Z));have f:=nC w;have o:∀e:Int,o5 n d i c l.length=.error e->Except.error e=dW n d i c c.length:=λe g=>by
    rw[g]at f;have:=jL (m:=c.length-(l.length+1)) f;rw[(Z:l.length+1+(c.length-(l.length+1))=c.length)]at this;exact this.symm
   rcases hx:bu n d i l.length (c.getD l.length 0)with e|z
   .have y:=(k7 h t s k v (c:=c.getD l.length 0)).2 e hx;rw[hx]at P a;repeat'(first|(refine ϑ y λhb=>?_;conv=>whnf)|(refine M y λhb=>?_;conv=>whnf)|(refine U j λhb=>?_;conv=>whnf)|refine' ag|fail)
    all_goals try exact bs
    exact ac ⟨.error e,rfl,o e a⟩
   .rw[hx]at P a;dsimp only at a;have r:=dN h t s k v hx;have H:∀z,(l++[z]).length=l.length+1:=λz=>by simp
    by_cases b:(l.length:Int)+1<(c.length:Int)
    .have A:=EJ z r (n.flows.getD i default).most Z;rw[if_pos Z]at a;rcases hX2:n4 z ((n.flows.getD i default).most-1)with e|B
     .rw[hX2]at A a;obtain rfl:=lx r hX2;repeat'(first|(refine U b λhb=>?_;conv=>whnf)|(refine U j λhb=>?_;conv=>whnf)|refine' ag|fail)
      all_goals try exact bs
      exact ac ⟨.error 3,rfl,o 3 a⟩
     .rw[hX2]at A a;rw[a]at f;repeat'(first|(refine U b λhb=>?_;conv=>whnf)|(refine U j λhb=>?_;conv=>whnf)|refine' ag|fail)
      all_goals try first|exact bs|exact⟨ξ _,aL Z rfl⟩
      refine aM [(100,84)] ⟨l++[B],by rw[H];omega,by rw[H];exact f⟩ ⟨⟨rfl,rfl⟩,?_,?_⟩ (by dsimp only;rw[H];omega)
      .skip;all_goals((refine' b9)<;>first|exact cy (H _).symm λi k=>bC Curve.cells c0 l B rfl i k _ (λe=>by subst e;simp;rfl)|exact bt)
      .skip;all_goals((refine' b9)<;>first|exact Θ (congrArg (AV.osl 84) (H _).symm)|exact Ξ (by rw[H];rfl)|exact bt)
    .rw[if_neg Z]at a;rw[a]at f;repeat'(first|(refine M b λhb=>?_;conv=>whnf)|(refine U j λhb=>?_;conv=>whnf)|refine' ag|fail)
     all_goals try first|exact bs|exact⟨ξ _,aL Z rfl⟩
     refine aM [(100,84)] ⟨l++[z],by rw[H];omega,by rw[H];exact f⟩ ⟨⟨rfl,rfl⟩,?_,?_⟩ (by dsimp only;rw[H];omega)
     .skip;all_goals((refine' b9)<;>first|exact cy (H _).symm λi k=>bC Curve.cells c0 l z rfl i k _ (λe=>by subst e;simp;rfl)|exact bt)
     .skip;all_goals((refine' b9)<;>first|exact Θ (congrArg (AV.osl 84) (H _).symm)|exact Ξ (by rw[H];rfl)|exact bt)
  .have p:Except.ok l=dW n d i c c.length:=by rw[(Z:c.length=l.length)];exact w.symm
   repeat'(first|(refine M j λhb=>?_;conv=>whnf)|refine' ag|fail)
   all_goals try exact bs
   refine aU [8,9] [100] [] [] [] ⟨⟨rfl,rfl⟩,?_,?_⟩ (bb 100 rfl rfl (λ_ _=>rfl) ?_ ?_ (bQ ?_))
   .skip;all_goals exact bt
   .skip;all_goals exact bt
   .all_goals try refine' b8
   .exact⟨λi k=>⟨trivial,trivial,trivial,trivial⟩,trivial⟩
   .conv=>whnf
    refine⟨.ok l,AvLe.tup (.cons (Γ rfl λi k=>rfl) (.cons Y .nil)),p⟩
theorem JO(n:Net)(d:Xa)(h:NetOk n)(A:NamesOk n)(g:ShapeOk n d)(i:Nat)(b:i<n.flows.length)(c:List Int)(D:c.length=(n.flows.getD i default).route.length)(u:∀x∈c,ah x) :
  ∃x,x=fQ n d i c/\bx 87 [n.av,aB d,J i,c4 c] (PB x):=by
 have t:FlowOk n.lines (n.flows.getD i default):=h.flow _ (by simp[b]);have v:=t.ne;obtain⟨x,q,Q⟩:=F2 n d h A g i b c D u;obtain⟨y,E⟩:∃y,y=fQ n d i c:=⟨_,rfl⟩;rw[<-E];unfold fQ at E;rw[<-q]at E;rcases x with e|l
 .have F:=uR h A g b Z q.symm;subst E;refine⟨.error e,rfl,?_⟩;refine' db func87 ntmps87 results87
  all_goals first|exact absurd ‹_› F|exact Y
 .obtain⟨C,_⟩:=jf q.symm;have m:=kA h A g b Z q.symm;rcases l with _|⟨a,r⟩
  .simp only[List.length_nil]at C;omega
  .have N := m a η;have O:∀x∈r,ar x:=λy L=>m y (by simp[L]);have I:(((a::r).length:Nat):Int)=(r.length:Nat)+1:=by simp
   have K:r.length<=4:=Z;have E:y=fB a r []:=E;rw[E];clear m q v E;refine dp func87 ntmps87 results87 ?_ (hco:=λx=>⟨Nn x _,by simp,rfl⟩);repeat'(first|refine' ag|fail)
   all_goals try exact ez
   refine⟨aQ (λ_ _ _=>cj 14 100 5 138 rfl rfl rfl) (ae (ι:={x:Nat×Curve×List Spl//x.1<=r.length/\ar x.2.1/\x.2.2.length=x.1/\fB a r []=fB x.2.1 (r.drop x.1) x.2.2}) [8,11,13] [8] [] ⟨(0,a,[]),π _,N,rfl,rfl⟩ (λ⟨(j,_,_),_⟩=>r.length-j) (λ⟨(j,_,ps),_⟩=>[(14,.osl 100 ps.length),(15,J ((j:Int)+1))]) (λ⟨(_,z,ps),_⟩=>[(13,some (.box z.cells)),(100,some (.arr ps.length 5 (ey Spl.cells default ps) 138))]) ?_ ?_).good⟩
   .refine⟨⟨rfl,rfl⟩,?_,?_⟩;all_goals((refine' b9)<;>first|exact cy rfl (ν)|exact bt)
   .rintro⟨⟨j,z,ps⟩,G,B,w,s⟩;dsimp only at G B w s;conv=>whnf
    by_cases f:(j:Int)+1<((a::r).length:Nat)
    .have hb:ar (r.getD j c0):=O _ (by simp[(Z:j<r.length)]);have P:=Ju z (r.getD j c0) B hb;have g:=Fc (l:=r) (j:=j) Z;have H:fB a r []=match c7 z (r.getD j c0)with |.error e=>.error e|.ok p=>fB p.res (r.drop (j+1)) (ps++[p]):=by rw[s,g];rfl
     rcases hp:c7 z (r.getD j c0)with e|p
     .rw[hp]at P H;obtain rfl:=mF (nA hp);repeat'(first|(refine U f λhb=>?_;conv=>whnf)|refine' ag|fail)
      all_goals try exact bs
      exact ac ⟨.error 3,rfl,H.symm⟩
     .rw[hp]at P H;have m:ar p.res:=(dq B hb (mE hp).1).1;have o:(ps++[p]).length=ps.length+1:=by simp
      repeat'(first|(refine U f λhb=>?_;conv=>whnf)|refine' ag|fail)
      all_goals try first|exact bs|exact⟨ξ _,aL Z rfl⟩
      refine aM [(100,55)] ⟨(j+1,p.res,ps++[p]),κ,m,κ,H⟩ ⟨⟨rfl,rfl⟩,?_,?_⟩ κ
      .skip;all_goals((refine' b9)<;>first|exact cy o.symm λi b=>bC Spl.cells default ps p rfl i b _ (λe=>by subst e;simp;rfl)|exact bt)
      .skip;all_goals((refine' b9)<;>first|exact Θ (congrArg (AV.osl 55) o.symm)|exact bt)
    .have k:Except.ok (z,ps)=fB a r []:=by rw[s,List.drop_eq_nil_of_le Z];rfl
     repeat'(first|(refine M f λhb=>?_;conv=>whnf)|refine' ag|fail)
     all_goals try exact bs
     refine aU [8,9,10] [8,100] [] [] [] ⟨⟨rfl,rfl⟩,?_,?_⟩ (bb 100 rfl rfl (λ_ _=>rfl) ?_ ?_ (bQ ?_))
     .skip;all_goals exact bt
     .skip;all_goals exact bt
     .all_goals try refine' b8
     .all_goals try refine' b8
     .conv=>whnf
      refine⟨.ok (z,ps),AvLe.tup (.cons Y (.cons (Γ rfl λi b=>rfl) (.cons Y .nil))),k⟩
theorem HC(n:Net)(d:Xa)(h:NetOk n)(f:NamesOk n)(b:ShapeOk n d)(i:Nat)(e:i<n.flows.length)(c:List Int)(a:c.length=(n.flows.getD i default).route.length)(H:∀x∈c,ah x) :
  bx 87 [n.av,aB d,J i,c4 c] (PB (fQ n d i c)):=by
 obtain⟨_,rfl,p⟩:=JO n d h f b i e c a H;exact p
structure RDelF(a:Curve)(R:Curve->Except Int eK):Prop where
 spec:∀z,ar z->bx 85 [a.av,z.av] (zf (R z))
 err:∀z e,ar z->R z=.error e->e≠0
theorem Cg(n:Net)(d:Xa)(h:NetOk n)(l:NamesOk n)(g:ShapeOk n d)(i:Nat)(j:i<n.flows.length)(c:List Int)(f:c.length=(n.flows.getD i default).route.length)(k:∀x∈c,ah x)(R:Curve->Except Int eK)(m:RDelF (n.flows.getD i default).con R) :
  bx 52 [n.av,aB d,J i,c4 c] (odR (uS (fQ n d i c) R)):=by
 have p:=HC n d h l g i j c f k;rcases hp:fQ n d i c with e|⟨z,ps⟩
 .have H:=A7 h l g j f hp;rw[hp]at p;refine' db func52 ntmps52 results52
  all_goals first|exact absurd ‹_› H|exact Y
 .rw[hp]at p;have o:=(hU h l g j f hp).kind;have P:=m.spec z o;have H:=m.err z;show CallSpec _ _ _ _ (odR (match cB (R z)with |.error e=>.error e|.ok v=>.ok (v,ps))) [];obtain⟨x,E⟩:∃x,x=R z:=⟨_,rfl⟩;rw[<-E]at P H⊢;clear E;rcases x with e|⟨b,v,w⟩
  .have H:=H e o rfl;refine' db func52 ntmps52 results52
   all_goals first|exact absurd ‹_› H|exact Y|omega
  .rcases b with _|_
   .by_cases a:v>2000
    .rw[show cB (.ok (false,v,w))=.error 5 from if_pos (.inr a)];refine ee func52 ntmps52 results52 λ_ _ _=>?_;repeat'(first|(refine U a λhb=>?_;conv=>whnf)|refine' aj|fail)
     all_goals first|exact Y|omega
    .rw[show cB (.ok (false,v,w))=.ok v from if_neg (by rintro(h|h);cases h;exact a h)];refine ee func52 ntmps52 results52 λ_ _ _=>?_;repeat'(first|(refine M a λhb=>?_;conv=>whnf)|refine' aj|fail)
     all_goals first|exact Y|omega
   .rw[nD];refine' db func52 ntmps52 results52
    all_goals first|exact Y|omega
def Pe(n:Net)(d:Xa)(i:Nat)(c:List Int)(R:Curve->Except Int eK)(ps:List Spl)(l:Int):Prop :=
 ∃a r,dW n d i c c.length=.ok (a::r)/\cT a r ps/\J5 (R (fj a ps)) l=true/\∀j,j<=ps.length->ar (fj a (ps.take j))
theorem F3(n:Net)(d:Xa)(h:NetOk n)(z:NamesOk n)(t:ShapeOk n d)(i:Nat)(p:i<n.flows.length)(c:List Int)(K:c.length=(n.flows.getD i default).route.length)(q:∀x∈c,ah x)(R:Curve->Except Int eK)(I:RDelF (n.flows.getD i default).con R)(ps:List Spl)(L:Int)(G:Pe n d i c R ps L) :
  ∃r:Bool,r=true/\bx 50 [n.av,aB d,J i,c4 c,iB 5 Spl.cells default ps,J L] (.bool r):=by
 have m:FlowOk n.lines (n.flows.getD i default):=h.flow _ (by simp[p]);have Q:=m.ne;obtain⟨x,A,p1⟩:=F2 n d h z t i p c K q;obtain⟨a,r,o,s,H,f⟩:=G;rw[o]at A;subst A;obtain⟨h1,_⟩:=jf o;have u:=kA h z t p Z o;have kr:∀x∈r,ar x:=λy W=>u y (by simp[W]);have O:(((a::r).length:Nat):Int)=(r.length:Nat)+1:=by simp
 have V:r.length<=4:=Z;have S:=s.len;have k:(ps.length:Int)=((a::r).length:Nat)-1:=Z;clear u;refine dp func50 ntmps50 results50 ?_;repeat'(first|(refine ϕ k λhb=>?_;conv=>whnf)|refine' ag|fail)
 all_goals try exact bs
 refine ae (ι:={j:Nat//j<=ps.length}) [2,4,5,6,13,15] [6] [] ⟨0,π _⟩ (λ⟨j,_⟩=>ps.length-j) (λ⟨j,_⟩=>[(16,J ((j:Int)+1))]) (λ⟨j,_⟩=>[(15,some (.box (fj a (ps.take j)).cells))]) ?_ ?_
 .exact⟨⟨rfl,rfl⟩,bt,bt⟩
 .rintro⟨j,N⟩;conv=>whnf
  by_cases g:(j:Int)+1<((a::r).length:Nat)
  .have X:ar (r.getD j c0):=kr _ (by simp[(Z:j<r.length)]);obtain⟨_,rfl,P⟩:=EG (fj a (ps.take j)) (r.getD j c0) (f j N) X (ps.getD j default) (s.at_ Z);have C:(j:Int)+1-1=(j:Nat):=Z;have D:fj a (ps.take (j+1))=(ps.getD j default).res:=by
    rw[jM default (l:=ps) Z,tc]
   repeat'(first|(refine' aN [] ⟨j+1,Z⟩<;>first|exact ObLe.of_eq (by dsimp only;rw[D];rfl)|exact bt)|(refine U g λhb=>?_;conv=>whnf)|(refine fg ?_;conv=>whnf)|(refine aa (λhb=>?_) (λhb=>?_)<;>conv=>whnf)|(refine ak (λhb=>?_) (λhb=>?_)<;>conv=>whnf)|(refine Side.mk ?_ ?_;rotate_left;conv=>whnf)|(refine SubS.mk ?_ ?_;rotate_left;conv=>whnf)|(refine VCells.mk ⟨_,rfl,?_⟩;conv=>whnf)|(refine DrawOk.mk ⟨rfl,rfl⟩ ?_;conv=>whnf)|(rw[C];conv=>whnf)|(refine am (P) ?_;conv=>whnf)|(refine a9 (λhb=>?_) (λhb=>?_)<;>conv=>whnf))
   all_goals try exact bs
  .obtain rfl:j=ps.length:=Z;have P:=I.spec _ (f ps.length (ξ _));have F:ps.take ps.length=ps:=List.take_length;rw[<-F]at H;rcases hDv:R (fj a (ps.take ps.length))with e|⟨b,v,w⟩
   .rw[hDv]at H;cases H
   .rw[hDv]at P H;have E:(!b&&decide (v<=L))=true:=H;simp only[Bool.and_eq_true,Bool.not_eq_true',decide_eq_true_eq]at E;obtain⟨rfl,B⟩:=E;repeat'(first|(refine M g λhb=>?_;conv=>whnf)|refine' ag|fail)
    all_goals try exact bs
    all_goals exact ac ⟨_,rfl,decide_eq_true B⟩
theorem HD(a:Curve)(h:Gd a):∃R,DelX a R/\∀z,ar z->bx 85 [a.av,z.av] (zf (R z)):=by
 obtain⟨c,C,f⟩:=d5 h;exact tg (a:=a) (S:=fun z x=>bx 85 [a.av,z.av] (zf x)) (fun z b=>by
  obtain⟨d,D,g⟩:=d5 b.gd;obtain⟨y,⟨_,H⟩,q⟩:=j9 a z c C (bG h) d D (bG b.gd);exact ⟨y,H h b.gd,q⟩) (fun k e=>by
  obtain⟨y,H,q⟩:=yG a h k e;exact⟨y,H,q⟩)
theorem DelX.of{a b:Curve}{R:Curve->Except Int eK}(h:DelX a R)(e:∀t:Nat,a.at t=b.at t):DelX b R:=by
 have E:(λt:Nat=>a.at t)=λt:Nat=>b.at t:=funext e;have c:∀k,E6 a k=E6 b k:=λk=>funext λt=>by unfold E6;rw[e]
 refine⟨λz d=>?_,λk H=>by rw[<-c];exact h.wait k H⟩;have:=h.nrm z d;unfold DelS at *;rw[E]at this;exact this
end Go.Nc