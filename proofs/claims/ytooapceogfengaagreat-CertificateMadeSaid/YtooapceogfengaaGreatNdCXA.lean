/- Parts. -/
import Derived.Test.YtooapceogfengaaGreatNdCWA
namespace Go.Nc
open Go.Proofs.Tryz
open Go.Proofs
set_option maxHeartbeats 8000000
theorem sY(f:FuncId)(o O:LObj)(k:o.live=true)(a:eu [] o)(l:O.live=true)(b:eu [] O)(F:Nat->Int)(s p m:Nat)(inc:Int)(B:1<=p/\s+p<=1000000)(A:m<s+p/\m+1<=400)(r:∀t,t<m->0<=F t/\F t<=1073741824)(h:F m=cx)
  (H:∀t:Nat,t<=m->fl f [J t,.lptr 901 0,.lptr 902 0] [(901,o),(902,O)] (J (F t)) [(901,o),(902,O)]) :
  ∃x,x=.ok ⟨(List.range (m+1)).map F,1,0⟩/\fl 157 [.fn f [.lptr 901 0,.lptr 902 0],J s,J p,J inc] [(901,o),(902,O)] (ay x) [(901,o),(902,O)]:=by
 have hcl:∀q∈[(901,o),(902,O)],eu ([(901,o),(902,O)].map (·.1)) q.2:=λq hq=>by
  simp only[List.mem_cons,List.not_mem_nil,or_false]at hq;rcases hq with rfl|rfl
  .exact bc a _
  .exact bc b _
 refine dp func157 ntmps157 results157 ?_ (hcl:=⟨by simp[k,l],rfl,hcl⟩) (hco:=λx=>⟨aC x _,hcl,rfl⟩);repeat'(first|refine' ag|fail)
 all_goals try exact bs
 refine ae (ι:={j:Nat//j<=m}) [0,1,2,3,8] [901,902,8] [] ⟨0,Z⟩ (λ⟨j,_⟩=>s+p-j) (λ⟨j,_⟩=>[(10,.osl 17 (s+p)),(19,J (s+p)),(20,J j)]) (λ⟨j,_⟩=>[(17,some (.arr (s+p) 1 (dR F j) 3))]) ?_ ?_
 .refine⟨⟨rfl,rfl⟩,?_,?_⟩;all_goals((refine' b9)<;>first|exact cy Z λi u=>rfl|exact Θ (congrArg (AV.osl 17) Z)|exact bt)
 .rintro⟨j,z⟩;conv=>whnf
  have w:(j:Int)<(s:Int)+p:=Z;have E:(j:Int).toNat=j:=Z;by_cases d:j=m
  .subst d;obtain⟨X,v,pe⟩:=fx (j+1) Z F;rcases X with e|c
   .obtain⟨_,q|⟨i,D,Q,y⟩⟩:=v
    .omega
    .rcases ζ i j with g|g
     .have:=r i g;omega
     .obtain rfl:i=j:=Z;exact absurd h y
   .obtain⟨_,Q,_⟩:=v;subst Q;repeat'(first|(refine U h λhb=>?_;conv=>whnf)|(refine fg ?_;conv=>whnf)|(refine aa (λhb=>?_) (λhb=>?_)<;>conv=>whnf)|(refine ak (λhb=>?_) (λhb=>?_)<;>conv=>whnf)|(refine Side.mk ?_ ?_;rotate_left;conv=>whnf)|(refine SubS.mk ?_ ?_;rotate_left;conv=>whnf)|(refine VCells.mk ⟨_,rfl,?_⟩;conv=>whnf)|(refine DrawOk.mk ⟨rfl,rfl⟩ ?_;conv=>whnf)|(refine aZ (H j (ξ _)) ⟨rfl,rfl,trivial⟩ ⟨trivial,trivial,trivial⟩ ?_;conv=>whnf)|(dsimp only;rw[Nat.beq_refl];conv=>whnf)|(refine bY [] [] pe rfl ?_ ?_ ?_ ?_;rotate_left;rotate_left;rotate_left;conv=>whnf)|(refine a9 (λhb=>?_) (λhb=>?_)<;>conv=>whnf))
    all_goals try first|exact bs|exactλi u=>(show(bif Nat.beq i j then[J (F j)]else dR F j i)=_ from dc Z)|exactλi _=>(by cases i.beq (j:Int).toNat<;>rfl)
    exact aJ ⟨_,rfl,⟨rfl,rfl,trivial⟩,rfl⟩
  .have C:=r j Z;have n:¬F j=cx:=by unfold cx;omega
   repeat'(first|(refine' aN [] ⟨j+1,Z⟩<;>first|exact cy rfl λi u=>aV rfl|exact bt)|(refine M n λhb=>?_;conv=>whnf)|(refine fg ?_;conv=>whnf)|(refine aa (λhb=>?_) (λhb=>?_)<;>conv=>whnf)|(refine ak (λhb=>?_) (λhb=>?_)<;>conv=>whnf)|(refine Side.mk ?_ ?_;rotate_left;conv=>whnf)|(refine SubS.mk ?_ ?_;rotate_left;conv=>whnf)|(refine VCells.mk ⟨_,rfl,?_⟩;conv=>whnf)|(refine DrawOk.mk ⟨rfl,rfl⟩ ?_;conv=>whnf)|(refine aZ (H j Z) ⟨rfl,rfl,trivial⟩ ⟨trivial,trivial,trivial⟩ ?_;conv=>whnf)|(dsimp only;rw[Nat.beq_refl];conv=>whnf)|(refine a9 (λhb=>?_) (λhb=>?_)<;>conv=>whnf))
   all_goals try exact bs
theorem yJ(f:FuncId)(o O:LObj)(g:o.live=true)(a:eu [] o)(k:O.live=true)(b:eu [] O)(F:Nat->Int)(s p m:Nat)(inc:Int)(z:1<=p/\s+p<=1000000)(y:m<s+p/\400<m+1)(r:∀t,t<m->0<=F t/\F t<=1073741824)(H:F m=cx)
  (h:∀t:Nat,t<=m->fl f [J t,.lptr 901 0,.lptr 902 0] [(901,o),(902,O)] (J (F t)) [(901,o),(902,O)]) :
  ∃x:Except Int Curve,x=.error 3/\fl 157 [.fn f [.lptr 901 0,.lptr 902 0],J s,J p,J inc] [(901,o),(902,O)] (ay x) [(901,o),(902,O)]:=by
 have hcl:∀q∈[(901,o),(902,O)],eu ([(901,o),(902,O)].map (·.1)) q.2:=λq hq=>by
  simp only[List.mem_cons,List.not_mem_nil,or_false]at hq;rcases hq with rfl|rfl
  .exact bc a _
  .exact bc b _
 refine dp func157 ntmps157 results157 ?_ (hcl:=⟨by simp[g,k],rfl,hcl⟩) (hco:=λx=>⟨aC x _,hcl,rfl⟩);repeat'(first|refine' ag|fail)
 all_goals try exact bs
 refine ae (ι:={j:Nat//j<=m}) [0,1,2,3,8] [901,902,8] [] ⟨0,Z⟩ (λ⟨j,_⟩=>s+p-j) (λ⟨j,_⟩=>[(10,.osl 17 (s+p)),(19,J (s+p)),(20,J j)]) (λ⟨j,_⟩=>[(17,some (.arr (s+p) 1 (dR F j) 3))]) ?_ ?_
 .refine⟨⟨rfl,rfl⟩,?_,?_⟩;all_goals((refine' b9)<;>first|exact cy Z λi n=>rfl|exact Θ (congrArg (AV.osl 17) Z)|exact bt)
 .rintro⟨j,w⟩;conv=>whnf
  have u:(j:Int)<(s:Int)+p:=Z;have E:(j:Int).toNat=j:=Z;by_cases d:j=m
  .subst d;obtain⟨X,Q,pe⟩:=fx (j+1) Z F;rcases X with e|c;rotate_left
   .have:=Q.1;omega
   .obtain⟨v,_⟩:=Q;subst v;repeat'(first|(refine U H λhb=>?_;conv=>whnf)|(refine fg ?_;conv=>whnf)|(refine aa (λhb=>?_) (λhb=>?_)<;>conv=>whnf)|(refine ak (λhb=>?_) (λhb=>?_)<;>conv=>whnf)|(refine Side.mk ?_ ?_;rotate_left;conv=>whnf)|(refine SubS.mk ?_ ?_;rotate_left;conv=>whnf)|(refine VCells.mk ⟨_,rfl,?_⟩;conv=>whnf)|(refine DrawOk.mk ⟨rfl,rfl⟩ ?_;conv=>whnf)|(refine aZ (h j (ξ _)) ⟨rfl,rfl,trivial⟩ ⟨trivial,trivial,trivial⟩ ?_;conv=>whnf)|(dsimp only;rw[Nat.beq_refl];conv=>whnf)|(refine bY [] [] pe rfl ?_ ?_ ?_ ?_;rotate_left;rotate_left;rotate_left;conv=>whnf)|(refine a9 (λhb=>?_) (λhb=>?_)<;>conv=>whnf))
    all_goals try first|exact bs|exactλi n=>(show(bif Nat.beq i j then[J (F j)]else dR F j i)=_ from dc Z)|exactλi _=>(by cases i.beq (j:Int).toNat<;>rfl)
    exact aJ ⟨_,rfl,⟨rfl,rfl,trivial⟩,rfl⟩
  .have A:=r j Z;have l:¬F j=cx:=by unfold cx;omega
   repeat'(first|(refine' aN [] ⟨j+1,Z⟩<;>first|exact cy rfl λi n=>aV rfl|exact bt)|(refine M l λhb=>?_;conv=>whnf)|(refine fg ?_;conv=>whnf)|(refine aa (λhb=>?_) (λhb=>?_)<;>conv=>whnf)|(refine ak (λhb=>?_) (λhb=>?_)<;>conv=>whnf)|(refine Side.mk ?_ ?_;rotate_left;conv=>whnf)|(refine SubS.mk ?_ ?_;rotate_left;conv=>whnf)|(refine VCells.mk ⟨_,rfl,?_⟩;conv=>whnf)|(refine DrawOk.mk ⟨rfl,rfl⟩ ?_;conv=>whnf)|(refine aZ (h j Z) ⟨rfl,rfl,trivial⟩ ⟨trivial,trivial,trivial⟩ ?_;conv=>whnf)|(dsimp only;rw[Nat.beq_refl];conv=>whnf)|(refine a9 (λhb=>?_) (λhb=>?_)<;>conv=>whnf))
   all_goals try exact bs
def lj(c:Curve)(m:Int):Nat->Int:=λt=>if t=0 then 0 else if c.fn (t-1)=cx then cx else max 0 (c.fn (t-1)-(m-1))
theorem Jl(c:Curve)(h:ar c)(m:Int)(b:1<=m/\m<=1500)(t:Nat)(d:t<=100000):∃x:Int,x=lj c m t/\fl 155 [J t,.lptr 901 0,.lptr 902 0] [(901,.box c.cells),(902,.box [J m])] (J x) [(901,.box c.cells),(902,.box [J m])]:=by
 have f:=h.val (t:=t-1) Z;have hcl:∀q∈[(901,LObj.box c.cells),(902,LObj.box [J m])],eu ([(901,LObj.box c.cells),(902,LObj.box [J m])].map (·.1)) q.2:=λq hq=>by
  simp only[List.mem_cons,List.not_mem_nil,or_false]at hq;rcases hq with rfl|rfl<;>rfl
 by_cases a:t=0
 .subst a;refine dp func155 ntmps155 results155 ?_ (hcl:=⟨rfl,rfl,hcl⟩) (hco:=λx=>⟨rfl,hcl,rfl⟩);repeat'(first|refine' ag|fail)
  all_goals try first|(exfalso;omega)|exact bs
  all_goals exact aJ ⟨_,rfl,⟨rfl,rfl,trivial⟩,rfl⟩
 .have p:=bU c h.wf (t-1) Z;rw[(Z:((t-1:Nat):Int)=(t:Int)-1),show c.at ((t:Int)-1)=c.fn (t-1) by unfold Curve.fn;rw[(Z:((t-1:Nat):Int)=(t:Int)-1)]]at p;have e:lj c m t=if c.fn (t-1)=cx then cx else max 0 (c.fn (t-1)-(m-1)):=if_neg a
  refine dp func155 ntmps155 results155 ?_ (hcl:=⟨rfl,rfl,hcl⟩) (hco:=λx=>⟨rfl,hcl,rfl⟩);repeat'(first|refine' ag|fail)
  all_goals try first|(exfalso;omega)|omega|(unfold ah cx at *;omega)
  all_goals
   refine aJ ⟨_,rfl,⟨rfl,rfl,trivial⟩,?_⟩;rw[e];by_cases H:c.fn (t-1)=cx
   .rw[if_pos H];first|exact H|exact absurd H ‹_›
   .rw[if_neg H]<;>first|rfl|exact absurd ‹_› H
theorem uK(c:Curve)(h:ar c)(m:Int)(H:1<=m/\m<=1500)(t:Nat)(a:t<=100000):fl 155 [J t,.lptr 901 0,.lptr 902 0] [(901,.box c.cells),(902,.box [J m])] (J (lj c m t)) [(901,.box c.cells),(902,.box [J m])]:=by
 obtain⟨_,rfl,p⟩:=Jl c h m H t a;exact p
theorem Av{c:Curve}(h:NrmC c)(m:Int){t:Nat}(a:t<=100000):lj c m t=na c.fn (m-1) t:=by
 unfold lj na;by_cases H:t=0
 .rw[if_pos H,if_pos H]
 .rw[if_neg H,if_neg H,if_neg];have:=h.lt (t:=t-1) Z;omega
theorem yK{c:Curve}(h:NrmC c){m:Int}(H:0<=m){t:Nat}(a:t<=100000):0<=na c.fn m t/\na c.fn m t<=36028797018963968:=by
 unfold na;have:=h.bd (t-1);split<;>omega
theorem Jm(c:Curve)(h:NrmC c)(m:Int)(y:1<=m/\m<=1500):bx 107 [c.av,J m] (ay (n4 c (m-1))):=by
 have d:ar c:=.inl h;have P:=dk d;have g:=d.wf;have D:=g.len;have E:=g.per;have H:=g.inc;have F:=aK c g;have G:=bU c g 399 Z;have A:c.st=c.vals.length-c.per.toNat:=rfl;have n:c.fn 399=c.at ((399:Nat):Int):=rfl;rw[wT h];have a:∀s:Nat,c.st+1<=s->s<=400->(c.inc=0\/m-1<=c.fn (s-1))->∃x,gk (na c.fn (m-1))=x/\fl 157 [.fn 155 [.lptr 901 0,.lptr 902 0],J s,J c.per,J c.inc] [(901,.box c.cells),(902,.box [J m])] (ay x) [(901,.box c.cells),(902,.box [J m])]:=λs B C o=>by
  obtain⟨x,⟨_,u⟩,p⟩:=lM 155 (.box c.cells) (.box [J m]) rfl rfl rfl rfl (na c.fn (m-1)) s c.per.toNat c.inc Z Z (λt i=>.inl (yK h Z Z)) (λt i=>by rw[<-Av h m Z];exact uK c d m y t Z);have r:=uJ (m:=m-1) h.gd.rep (λs t k=>h.mono k) H.1 (b:=s) Z o;have q:=u (λt i=>by have:=yK h (m:=m-1) Z (t:=t) Z;unfold cx;omega) (λt i=>r.2 t i);rw[(Z:((c.per.toNat:Nat):Int)=c.per)]at p;exact⟨x,q.eq.symm,p⟩
 by_cases w:c.inc=0
 .obtain⟨x,l,p⟩:=a (c.st+1) Z (by have:=d.st_max;omega) (.inl w);rw[l];rw[(Z:((c.st+1:Nat):Int)=((c.vals.length-c.per.toNat:Nat):Int)+1)]at p;rcases x with e|z
  .refine ee func107 ntmps107 results107 λ_ _ _=>?_;repeat'(first|(refine aT [4,5,7] [4] [(901,6),(902,3)] [(6,.lptr 901 0),(3,.lptr 902 0)] [(901,some (.box c.cells)),(902,some (.box [J m]))] ⟨⟨rfl,rfl⟩,bt,bt⟩ ?_;conv=>whnf)|refine' aj|(refine aZ p ⟨rfl,rfl,trivial⟩ ⟨trivial,trivial,trivial⟩ ?_;conv=>whnf))
   all_goals first|(exfalso;omega)|exact bs|exact Y
  .refine ee func107 ntmps107 results107 λ_ _ _=>?_;repeat'(first|(refine aT [4,5,7] [4] [(901,6),(902,3)] [(6,.lptr 901 0),(3,.lptr 902 0)] [(901,some (.box c.cells)),(902,some (.box [J m]))] ⟨⟨rfl,rfl⟩,bt,bt⟩ ?_;conv=>whnf)|refine' aj|(refine aZ p ⟨rfl,rfl,trivial⟩ ⟨trivial,trivial,trivial⟩ ?_;conv=>whnf))
   all_goals first|(exfalso;omega)|exact bs|exact Y
 .by_cases v:m-1<=c.fn 399
  .obtain⟨x,l,p⟩:=a 400 (by have:=d.st_max;omega) Z (.inr v);rw[l];rcases x with e|z
   .refine ee func107 ntmps107 results107 λ_ _ _=>?_;repeat'(first|(refine aT [4,5,7] [4] [(901,6),(902,3)] [(6,.lptr 901 0),(3,.lptr 902 0)] [(901,some (.box c.cells)),(902,some (.box [J m]))] ⟨⟨rfl,rfl⟩,bt,bt⟩ ?_;conv=>whnf)|refine' aj|(refine aZ p ⟨rfl,rfl,trivial⟩ ⟨trivial,trivial,trivial⟩ ?_;conv=>whnf))
    all_goals first|(exfalso;omega)|exact bs|exact Y
   .refine ee func107 ntmps107 results107 λ_ _ _=>?_;repeat'(first|(refine aT [4,5,7] [4] [(901,6),(902,3)] [(6,.lptr 901 0),(3,.lptr 902 0)] [(901,some (.box c.cells)),(902,some (.box [J m]))] ⟨⟨rfl,rfl⟩,bt,bt⟩ ?_;conv=>whnf)|refine' aj|(refine aZ p ⟨rfl,rfl,trivial⟩ ⟨trivial,trivial,trivial⟩ ?_;conv=>whnf))
    all_goals first|(exfalso;omega)|exact bs|exact Y
  .have j:r6 (na c.fn (m-1)):=sX (f:=c.fn) (m:=m-1) h.gd.rep (λs t k=>h.mono k) Z Z;rw[<-CanQ.eq (x:=.error 3) ⟨rfl,j⟩];refine' db func107 ntmps107 results107
   all_goals first|(exfalso;omega)|exact bs|exact Y
theorem GS(k:Nat)(n:k<=398)(m:Int)(o:1<=m/\m<=1500):bx 107 [(ao k).av,J m] (ay (n4 (ao k) (m-1))):=by
 obtain⟨c,E⟩:∃c,c=ao k:=⟨_,rfl⟩;have d:ar c:=.inr ⟨k,n,E⟩;have s:=dk d;have P:=aK c d.wf;have u:True:=trivial;have i:c.vals.length-c.per.toNat=k+1:=by rw[E];exact cA k
 have H:c.per=1:=by rw[E];rfl
 have h:c.inc=0:=by rw[E];rfl
 rw[i]at P;have f:∀t,lj c m t=wF (k+1) t:=λt=>by
  unfold lj wF;rw[E,bT n];unfold wF;by_cases j:t=0
  .rw[if_pos j,if_pos Z]
  .rw[if_neg j];by_cases a:t<=k+1
   .rw[if_pos a,if_pos (Z:t-1<=k),if_neg φ];omega
   .rw[if_neg a,if_neg (Z:¬t-1<=k),if_pos rfl]
 have l:∀t,t<k+2->0<=lj c m t/\lj c m t<=1073741824:=λt g=>by
  rw[f,show wF (k+1) t=0 from if_pos Z];omega
 have q:∃x,n4 c (m-1)=x/\fl 157 [.fn 155 [.lptr 901 0,.lptr 902 0],J ((k+1:Nat)+1:Int),J c.per,J c.inc] [(901,.box c.cells),(902,.box [J m])] (ay x) [(901,.box c.cells),(902,.box [J m])]:=by
  rw[E,Ar,<-E];by_cases a:k+1<=398
  .obtain⟨x,b,p⟩:=sY 155 (.box c.cells) (.box [J m]) rfl rfl rfl rfl (lj c m) (k+2) 1 (k+2) 0 Z Z l (by rw[f];exact if_neg Z) (λt g=>uK c d m o t Z);rw[(Z:(((k+2:Nat)):Int)=((k+1:Nat):Int)+1)]at p;rw[H,h];refine⟨x,?_,p⟩;rw[if_pos a,b];refine congrArg Except.ok ?_;unfold ao;congr 1;refine List.map_congr_left λt g=>?_;simp only[List.mem_range]at g;rw[f];unfold dY wF;by_cases e:t=k+1+1
   .rw[if_pos e,if_neg Z]
   .rw[if_neg e,if_pos Z]
  .obtain⟨x,b,p⟩:=yJ 155 (.box c.cells) (.box [J m]) rfl rfl rfl rfl (lj c m) (k+2) 1 (k+2) 0 Z Z l (by rw[f];exact if_neg Z) (λt g=>uK c d m o t Z);rw[(Z:(((k+2:Nat)):Int)=((k+1:Nat):Int)+1)]at p;rw[H,h];exact⟨x,by rw[if_neg a,b],p⟩
 obtain⟨x,b,r⟩:=q;rw[<-E,b];rcases x with e|z;all_goals
  refine ee func107 ntmps107 results107 λ_ _ _=>?_;repeat'(first|(refine aT [4,5,7] [4] [(901,6),(902,3)] [(6,.lptr 901 0),(3,.lptr 902 0)] [(901,some (.box c.cells)),(902,some (.box [J m]))] ⟨⟨rfl,rfl⟩,bt,bt⟩ ?_;conv=>whnf)|refine' aj|(refine aZ r ⟨rfl,rfl,trivial⟩ ⟨trivial,trivial,trivial⟩ ?_;conv=>whnf))
  all_goals first|(exfalso;omega)|exact bs|exact Y
theorem Ez(c:Curve)(h:ar c)(m:Int)(H:1<=m/\m<=1500):bx 107 [c.av,J m] (ay (n4 c (m-1))):=by
 rcases h with h|⟨k,a,rfl⟩
 .exact Jm c h m H
 .exact GS k a m H
theorem Nd(a b:List Int)(l:a.length<=9223372036854775807):∃r:Bool,(r=true↔a=b)/\bx 263 [c4 a,c4 b] (.bool r):=by
 by_cases c:(a.length:Int)=b.length
 .refine dp func263 ntmps263 results263 ?_;repeat'(first|(refine ϕ c λhb=>?_;conv=>whnf)|refine' ag|fail)
  all_goals try exact ez
  refine ae (ι:={i:Nat//i<=a.length/\∀k,k<i->a.getD k 0=b.getD k 0}) [0,1,12] [] [] ⟨0,Z,ν⟩ (λ⟨i,_⟩=>a.length-i) (λ⟨i,_⟩=>[(13,J i)]) (λ_=>[]) ?_ ?_
  .exact⟨⟨rfl,rfl⟩,bt,bt⟩
  .rintro⟨i,m,d⟩;conv=>whnf
   by_cases h:(i:Int)<a.length
   .by_cases H:a.getD (i:Int).toNat 0=b.getD (i:Int).toNat 0
    .skip;repeat'(first|(refine ϕ H λhb=>?_;conv=>whnf)|(refine U h λhb=>?_;conv=>whnf)|(exact aH [] ⟨i+1,Z,λk n=>(ζ k i).elim (d k) λj=>by have E:k=i:=Z;subst E;exact H⟩)|refine' ag|fail)
     all_goals try exact bs
    .skip;repeat'(first|(refine ϑ H λhb=>?_;conv=>whnf)|(refine U h λhb=>?_;conv=>whnf)|refine' ag|fail)
     all_goals try exact bs
     exact ac ⟨false,rfl,λe=>(by cases e),λe=>absurd (by rw[e]) H⟩
   .skip;repeat'(first|(refine M h λhb=>?_;conv=>whnf)|refine' ag|fail)
    all_goals try exact bs
    refine ac ⟨true,rfl,λ_=>List.ext_getElem Z λk f g=>?_,λ_=>rfl⟩;have:=d k Z;rw[ψ,β f,ψ,β g]at this;exact this
 .refine⟨false,⟨λe=>(by cases e),λe=>absurd (by rw[e]) c⟩,?_⟩;refine ee func263 ntmps263 results263 λ_ _ _=>?_;repeat'(first|(refine ϑ c λhb=>?_;conv=>whnf)|refine' aj|fail)
  all_goals exact Y
theorem wV{c:Curve}(i:WfC c)(f:c.vals.getD (c.vals.length-1) 0=cx):∃m,m<c.vals.length/\c.vals.getD m 0=cx/\∀t,t<m->c.vals.getD t 0≠cx:=by
 have j:=i.len;suffices h:∀n,n<c.vals.length->c.vals.getD n 0=cx->∃m,m<=n/\c.vals.getD m 0=cx/\∀t,t<m->c.vals.getD t 0≠cx by
  obtain⟨m,a,H⟩:=h (c.vals.length-1) Z f;exact⟨m,Z,H⟩
 intro n;induction n using Nat.strongRecOn with
 |ind n ih=>
  intro l d;by_cases h:∃t,t<n/\c.vals.getD t 0=cx
  .obtain⟨t,a,H⟩:=h;obtain⟨m,k,b⟩:=ih t a Z H;exact⟨m,Z,b⟩
  .exact⟨n,ξ _,d,λt g e=>h ⟨t,g,e⟩⟩
theorem BW(c:Curve)(m:Nat)(a:m<c.vals.length):(List.range (m+1)).map (λt:Nat=>c.at t)=c.vals.take (m+1):=by
 apply List.ext_getElem
 .simp;omega
 .intro i h H;simp only[List.length_map,List.length_range]at h;simp only[List.getElem_map,List.getElem_range,List.getElem_take];rw[bM Z];simp[(Z:i<c.vals.length)]
theorem sZ(c:Curve)(b:c.valid=true)(m:Nat)(H:m<c.vals.length)(f:c.vals.getD m 0=cx)(e:∀t,t<m->c.vals.getD t 0≠cx):bx 154 [c.av] (ay (.ok ⟨c.vals.take (m+1),1,0⟩)):=by
 have P:=eQ c;rw[b]at P;have h:=aY b;have g:=h.len;have j:=h.per;have k:=i8 c.vals Z;have l:=aK c h;obtain ⟨x,d,p⟩:=qd 212 (.box c.cells) rfl rfl (fun t=>c.at t) (c.vals.length - c.per.toNat) c.per.toNat m c.inc Z Z (fun t a=>by
  have:=(h.getD (i:=t) Z);rw[bM Z];have:=e t a;omega) (by rw[bM H];exact f) (λt a=>CR c h t Z)
 rw[BW c m H]at d;subst d;rw[(Z:((c.per.toNat:Nat):Int)=c.per)]at p;refine ee func154 ntmps154 results154 λ_ _ _=>?_;repeat'(first|(refine aT [2,3] [2] [(901,1)] [(1,.lptr 901 0)] [(901,some (.box c.cells))] ⟨⟨rfl,rfl⟩,bt,bt⟩ ?_;conv=>whnf)|refine' aj|refine cn p ?_)
 all_goals exact Y
theorem wW{h:Curve}(H:h.valid=true)(c:h.vals.getD (h.vals.length-1) 0=cx):h.per=1/\h.inc=0:=by
 have a:=(aY H).len;unfold Curve.valid at H;split at H
 .cases H
 .rcases e:fo 0 h.vals with _|r
  .rw[e]at H;cases H
  .rw[e]at H;dsimp only at H;rw[if_pos ((gm e (by intro b;rw[b]at a;simp at a)).symm.trans c)]at H;simpa using H
theorem InfH.not_nrm{h:Curve}(i:InfH h):¬NrmC h:=λn=>n.last i.last
theorem E0(h:Curve):∃x:Except Int Curve,((∀z,x=.ok z->z.vals.length<=400/\(z=h↔NrmC h\/InfH h))/\(∀e,x=.error e->e≠0/\¬(NrmC h\/InfH h)))/\bx 154 [h.av] (ay x):=by
 by_cases H:h.valid=true
 .have q := aY H;have A:=q.len;by_cases a:h.vals.getD (h.vals.length-1) 0=cx
  .obtain⟨m,s,k,l⟩:=wV q a;obtain⟨f,j⟩:=wW H a;refine⟨_,⟨λz E=>?_,λe c=>by cases c⟩,sZ h H m s k l⟩;cases E;refine⟨by simp;omega,λe=>.inr ⟨H,f,j,a,λt B=>l t ?_⟩,λo=>?_⟩
   .have:(h.vals.take (m+1)).length=h.vals.length:=congrArg (λz:Curve=>z.vals.length) e;simp only[List.length_take]at this;omega
   .rcases o with o|o
    .exact absurd a o.last
    .have:m+1=h.vals.length:=by
      rcases ζ (m+1) h.vals.length with g|g
      .exact absurd k (o.fin m g)
      .omega
     rw[this,List.take_length,<-f,<-j]
  .have d:=jv H a;obtain⟨x,⟨_,_,u⟩,p⟩:=bV h;have b:=u ⟨H,d⟩;obtain⟨z,rfl⟩:=ct ⟨H,d⟩ b;refine⟨_,⟨λy r=>?_,λe c=>by cases c⟩,p⟩;cases r;refine⟨b.1.len.2,λe=>.inl ⟨⟨H,d⟩,by rw[<-e]at b⊢;exact b⟩,λo=>?_⟩;rcases o with o|o
   .exact Except.ok.inj (CanQ.unique b o.can)
   .exact absurd o.last a
 .have v:¬(NrmC h\/InfH h):=λo=>H (o.elim (λn=>n.gd.1) (λi=>i.valid));obtain⟨x,⟨hq,_,_⟩,p⟩:=bV h;rcases x with e|z
  .refine⟨_,⟨λz E=>(by cases E),λw c=>?_⟩,p⟩;cases c;exact⟨by rcases hq with⟨h,_⟩|h<;>omega,v⟩
  .exact absurd hq.1 H
theorem GT(a b:Curve)(h:a.vals.length<=9223372036854775807):∃r:Bool,(r=true↔a=b)/\bx 228 [a.av,b.av] (.bool r):=by
 obtain⟨r,c,p⟩:=Nd a.vals b.vals h;have H:a=b↔a.vals=b.vals/\a.per=b.per/\a.inc=b.inc:=by
  rcases a with⟨x,y,z⟩;rcases b with⟨X,d,e⟩;simp
 rcases r with _|_;all_goals
  simp only[Bool.false_eq_true,false_iff,true_iff]at c;refine dp func228 ntmps228 results228 ?_;repeat'(first|refine' ag|fail)
  all_goals first|omega|exact ac ⟨_,rfl,by rw[H];simp_all⟩
def kM(a b h:Curve):Prop:=(NrmC h\/InfH h)/\(NrmC h↔NrmC a\/NrmC b)/\(NrmC h->(∃m:Nat,bj a b=(m+1)*h.per.toNat)/\aA h (bj a b)=d6 a b (bj a b))
theorem ar.first{c:Curve}(h:ar c):c.vals.getD 0 0≠cx:=by
 rcases h with h|⟨k,H,rfl⟩
 .exact h.gd.2.getD (by have:=h.per;omega)
 .rw[ca Z];unfold dY;rw[if_neg Z];decide
theorem uL{P p:Nat}(H:1<=P):((P:Int).tmod p=0)↔∃m:Nat,P=(m+1)*p:=by
 rw[Int.tmod_eq_emod_of_nonneg Z];constructor
 .intro h;have a:p∣P:=by have:=Int.dvd_of_emod_eq_zero h;exact Int.natCast_dvd_natCast.1 this
  exact qK a H
 .rintro⟨m,e⟩;rw[e,Int.natCast_mul];exact Int.mul_emod_left _ _
theorem GU(a b h:Curve)(l:ar a)(hb:ar b)(o:bj a b<=120):∃r:Bool,(r=true↔kM a b h)/\bx 176 [.agg (H5 a b (bj a b)),h.av] (.bool r):=by
 obtain⟨x,⟨w,y⟩,D⟩:=E0 h;rcases x with e|z
 .obtain⟨q,f⟩:=y e rfl;refine⟨false,⟨λh=>(by cases h),λh=>absurd h.1 f⟩,?_⟩;refine' db func176 ntmps176 results176
  all_goals first|exact absurd ‹_› q|exact Y
 .obtain⟨q,f⟩:=w z rfl;obtain⟨r,N,F⟩:=GT z h Z;by_cases c:NrmC h\/InfH h
  .obtain rfl:z=h:=f.2 c;have v:r=true:=N.2 rfl;subst v;have g:a.vals.getD 0 0≠4611686018427387904:=l.first;have d:b.vals.getD 0 0≠4611686018427387904:=hb.first;have H:true= !decide (b.vals.getD (Int.toNat 0) 0=4611686018427387904):=(congrArg (λz=>!z) (decide_eq_false d)).symm;have A:=l.len;have C:=hb.len;have b1:=aS a Z;have B:=aS b Z;have I:=l.finB_iff;have ib:=hb.finB_iff;rcases c with c|c
   .have s:ar z:=.inl c;have L:=s.len;have n:=aS z Z;rw[c.finB]at n;have k:=s.per;have j:=gJ l hb;have t:=uL (P:=bj a b) (p:=z.per.toNat) j;rw[<-k.2.2]at t;have G:=dt l o (dH l hb);have K:=dt hb o (dl l hb);have Q:=dV l o;have O:=dV hb o;have V:min 4611686018427387904 (aA b (bj a b))=aA b (bj a b):=Z;have W:min 4611686018427387904 (aA a (bj a b))=aA a (bj a b):=Z;have i:kM a b z↔(NrmC a\/NrmC b)/\((bj a b:Nat):Int).tmod z.per=0/\aA z (bj a b)=d6 a b (bj a b):=by
     unfold kM;rw[t];exact⟨λh=>⟨h.2.1.1 c,h.2.2 c⟩,λh=>⟨.inl c,⟨λ_=>h.1,λ_=>c⟩,λ_=>h.2⟩⟩
    have E:d6 a b (bj a b)=if Nc.finB a=true then if Nc.finB b=true then min (aA a (bj a b)) (aA b (bj a b))else aA a (bj a b)else aA b (bj a b):=by
     unfold d6;by_cases q:NrmC a<;>by_cases f:NrmC b<;>simp[q,f,I.2,ib.2,mt I.1,mt ib.1]
    rw[E,<-I,<-ib]at i;by_cases R:((bj a b:Nat):Int).tmod z.per=0
    .have S:=dt s o (t.1 R);rcases ea:Nc.finB a with _|_<;>rcases eb:Nc.finB b with _|_;all_goals
      rw[ea]at b1;rw[eb]at B;rw[ea,eb]at i;refine dp func176 ntmps176 results176 ?_;repeat'(first|(refine ϑ d λhb=>?_;conv=>whnf)|(refine ϑ g λhb=>?_;conv=>whnf)|refine' ag|refine ab b1 ?_)
      all_goals try first|exact bs|exact absurd H hb|exact absurd (hb.trans H.symm) φ
      all_goals
       refine ac ⟨_,rfl,?_⟩;rw[i];clear g d H Q O A C L b1 B n G K D F i t E k j;simp_all
    .rcases ea:Nc.finB a with _|_<;>rcases eb:Nc.finB b with _|_;all_goals
      rw[ea]at b1;rw[eb]at B;rw[ea,eb]at i;refine dp func176 ntmps176 results176 ?_;repeat'(first|(refine ϑ d λhb=>?_;conv=>whnf)|(refine ϑ g λhb=>?_;conv=>whnf)|refine' ag|refine ab b1 ?_)
      all_goals try first|exact bs|exact absurd H hb|exact absurd (hb.trans H.symm) φ
      all_goals
       refine ac ⟨_,rfl,?_⟩;rw[i];clear g d H Q O A C L b1 B n G K D F i t E k j;simp_all
   .have L:=(aY c.valid).len;have n:=aS z Z;rw[show Nc.finB z=false by unfold Nc.finB;rw[c.last];rfl]at n;have m:=c.not_nrm;have i:kM a b z↔¬(NrmC a\/NrmC b):=by
     unfold kM;exact⟨λh f=>m (h.2.1.2 f),λh=>⟨.inr c,⟨λf=>absurd f m,λf=>absurd f h⟩,λf=>absurd f m⟩⟩
    rw[<-I,<-ib]at i;rcases ea:Nc.finB a with _|_<;>rcases eb:Nc.finB b with _|_;all_goals
     rw[ea]at b1;rw[eb]at B;rw[ea,eb]at i;refine dp func176 ntmps176 results176 ?_;repeat'(first|(refine ϑ d λhb=>?_;conv=>whnf)|(refine ϑ g λhb=>?_;conv=>whnf)|refine' ag|refine ab b1 ?_)
     all_goals try first|exact bs|exact absurd H hb|exact absurd (hb.trans H.symm) φ
     all_goals
      refine ac ⟨_,rfl,?_⟩;rw[i];clear g d H A C L b1 B n D F i;simp_all
  .have u:r=false:=by
    rcases r with _|_
    .rfl
    .exact absurd (f.1 (N.1 rfl)) c
   subst u;refine⟨false,⟨λh=>(by cases h),λh=>absurd h.1 c⟩,?_⟩;refine' db func176 ntmps176 results176
   all_goals exact Y
theorem E7{p:Nat->Prop}:∀n,p n->∃m,m<=n/\p m/\∀k,k<m->¬p k:=by
 intro n;induction n using Nat.strongRecOn with
 |ind n ih=>
  intro h;by_cases g:∃k,k<n/\p k
  .obtain⟨k,H,a⟩:=g;obtain⟨m,e,b⟩:=ih k H a;exact⟨m,Z,b⟩
  .exact⟨n,ξ _,h,λk c d=>g ⟨k,c,d⟩⟩
def H9(a b z:Curve)(t s:Nat):Prop:=ba (a.fn s) (b.fn (t-s))=z.fn t/\(t<eH a b z\/z.fn t=cx\/RepP a b z (bj a b) s t)
open Classical in
noncomputable def s7(a b z:Curve)(t:Nat):Nat:=if h:∃m,m<=t/\H9 a b z t m/\∀k,k<m->¬H9 a b z t k then Classical.choose h else 0
theorem yL{a b z:Curve}(f:ar a)(hb:ar b)(h:b6 a b=.ok z){t:Nat}(i:t<=1000000):s7 a b z t<=t/\H9 a b z t (s7 a b z t)/\∀k,k<s7 a b z t->¬H9 a b z t k:=by
 have H:∃m,m<=t/\H9 a b z t m/\∀k,k<m->¬H9 a b z t k:=by
  obtain⟨s,j,c,d⟩:=uI f hb h i;obtain ⟨m,l,e⟩:=E7 (p:=H9 a b z t) s ⟨c,by
   rcases ζ t (eH a b z)with g|g
   .exact .inl g
   .exact .inr (d g)⟩
  exact⟨m,Z,e⟩
 unfold s7;rw[dif_pos H];exact Classical.choose_spec H
noncomputable def J1(a b z:Curve):List Int:=(List.range (eH a b z+bj a b)).map λt=>(s7 a b z t:Int)
theorem uM(a b z:Curve):(J1 a b z).length=eH a b z+bj a b:=by simp[J1]
theorem Aw{a b z:Curve}{t:Nat}(h:t<eH a b z+bj a b):(J1 a b z).getD t 0=(s7 a b z t:Int):=by
 unfold J1;simp[h]
noncomputable def c7(a b:Curve):Except Int Spl:=match b6 a b with
 |.error e=>.error e
 |.ok z=>.ok ⟨z,eH a b z,J1 a b z⟩
def Spl.cells(p:Spl):List AV:=[c4 p.res.vals,J p.res.per,J p.res.inc,J p.fr,c4 p.at_]
def KA:Except Int Spl->AV
 |.ok p=>.tup [.agg p.cells,J 0]
 |.error e=>.tup [.agg [.nils,J 0,J 0,J 0,.nils],J e]
theorem mE{a b:Curve}{p:Spl}(h:c7 a b=.ok p):b6 a b=.ok p.res/\p.fr=eH a b p.res/\p.at_=J1 a b p.res:=by
 unfold c7 at h;rcases e:b6 a b with E|z
 .rw[e]at h;cases h
 .rw[e]at h;cases h;exact⟨rfl,rfl,rfl⟩
theorem nA{a b:Curve}{e:Int}(h:c7 a b=.error e):b6 a b=.error e:=by
 unfold c7 at h;rcases e2:b6 a b with E|z
 .rw[e2]at h;cases h;rfl
 .rw[e2]at h;cases h
theorem E8{a b z:Curve}(h:ar a)(hb:ar b)(H:ar z)(c:bj a b<=120):eH a b z<=918:=by
 have l:=h.st_max;have L:=hb.st_max;have d:=H.st_max;unfold eH;omega
theorem BX{a b:Curve}{p:Spl}(d:ar a)(hb:ar b)(h:c7 a b=.ok p):CertL a b p.res p.fr p.at_:=by
 obtain⟨H,e,f⟩:=mE h;obtain⟨z,fr,l⟩:=p;dsimp only at H e f⊢;subst e f;have c:=Et d hb H;have k:=E8 d hb (dq d hb H).1 c.le;have j:=c.le;refine⟨c.le,c.norm,c.fin,c.gain,rfl,uM ..,λt i=>?_,c.below⟩;rw[uM]at i;rw[Aw i];obtain⟨m,Q,_⟩:=yL d hb H (t:=t) Z;refine⟨Z,Z,?_,λg=>?_⟩
 .rw[χ];exact Q.1
 .rw[χ];rcases Q.2 with q|q
  .omega
  .exact q
theorem mF{a b:Curve}{e:Int}(h:b6 a b=.error e):e=3:=by
 have:=mD (a:=a) (b:=b) (λz H=>by rw[h]at H;cases H);rw[h]at this;cases this;rfl
theorem GV{a b z:Curve}(H:ar a)(hb:ar b)(h:b6 a b=.ok z):∃m:Nat,bj a b=(m+1)*z.per.toNat:=by
 obtain⟨e,f⟩:=k9 H hb h;by_cases d:NrmC a\/NrmC b
 .exact(f d).1
 .have c:=(dq H hb h).1;rcases c with c|⟨k,g,rfl⟩
  .exact absurd (e.1 c) d
  .have:=gJ H hb;exact⟨bj a b-1,by show bj a b=(bj a b-1+1)*1;omega⟩
theorem Jn(a b:Curve)(c:ar a)(k:ar b):∃x,x=c7 a b/\bx 108 [a.av,b.av] (KA x):=by
 have P:=Au a b c k;have hcl:∀x:Except Int Spl,∀q:List Nat,gu q (KA x)=true:=λx q=>by cases x<;>rfl
 by_cases g:bj a b<=120
 .rw[if_pos g]at P;have F:=Nl a b c k g;rcases f:b6 a b with e|z
  .rw[f]at F;obtain rfl:=mF f;refine dp func108 ntmps108 results108 ?_ (hco:=λx=>⟨hcl x _,by simp,rfl⟩);repeat'(first|refine' ag|fail)
   exact ac ⟨.error 3,rfl,by unfold c7;rw[f]⟩
  .rw[f]at F;have p:=(dq c k f).1;have N:=HZ a b z c k p.wf g;have hh:=E8 c k p g;obtain⟨H,E⟩:∃H,H=eH a b z:=⟨_,rfl⟩;rw[<-E]at N hh;have I:=uM a b z;rw[<-E]at I;have G:∀t,t<H+bj a b->(J1 a b z).getD t 0=(s7 a b z t:Int):=λt ht=>Aw Z;have L:∀e:Except Int Spl,e=.ok ⟨z,H,J1 a b z⟩->e=c7 a b:=λe h=>by unfold c7;rw[f,h,E]
   obtain⟨l,el⟩:∃l,l=J1 a b z:=⟨_,rfl⟩;rw[<-el]at I G L;have hd:=GV c k f;have t1:=dr a c.wf l.length Z;have t2:=dr b k.wf l.length Z;have W:((H:Nat):Int)+(bj a b:Nat)=(l.length:Nat):=Z;have K:l.length<=2000:=Z;refine dp func108 ntmps108 results108 ?_ (hco:=λx=>⟨hcl x _,by simp,rfl⟩);repeat'(first|(refine fg ?_;conv=>whnf)|(refine aa (λhb=>?_) (λhb=>?_)<;>conv=>whnf)|(refine ak (λhb=>?_) (λhb=>?_)<;>conv=>whnf)|(refine Side.mk ?_ ?_;rotate_left;conv=>whnf)|(refine SubS.mk ?_ ?_;rotate_left;conv=>whnf)|(refine VCells.mk ⟨_,rfl,?_⟩;conv=>whnf)|(refine DrawOk.mk ⟨rfl,rfl⟩ ?_;conv=>whnf)|(refine am (P) ?_;conv=>whnf)|(refine am (F) ?_;conv=>whnf)|(refine am (N) ?_;conv=>whnf)|(rw[W];conv=>whnf)|(refine am (t1) ?_;conv=>whnf)|(refine am (t2) ?_;conv=>whnf)|(refine a9 (λhb=>?_) (λhb=>?_)<;>conv=>whnf))
   all_goals try exact bs
   refine ae (ι:={j:Nat//j<=l.length}) [4,6,8,9,11,12] [4,6,8] [] ⟨0,π _⟩ (λ⟨j,_⟩=>l.length-j) (λ⟨j,_⟩=>[(13,.osl 52 l.length),(54,J l.length),(55,J j)]) (λ⟨j,_⟩=>[(52,some (.arr l.length 1 (dR (λi=>l.getD i 0) j) 3))]) ?_ ?_
   .refine⟨⟨rfl,rfl⟩,?_,?_⟩;all_goals((refine' b9)<;>first|exact cy Z λi u=>rfl|exact Θ (congrArg (AV.osl 52) Z)|exact bt)
   .rintro⟨j,hj⟩;conv=>whnf
    by_cases A:j=l.length
    .subst A;repeat'(first|(refine M Z λhb=>?_;conv=>whnf)|(refine au [4,6,8,9,13,54,55] [4,6,8] [] [] [(52,some (.arr l.length 1 (λi=>[J (l.getD i 0)]) 3))] ⟨⟨rfl,rfl⟩,?_,?_⟩ ?_;(solve|((refine' b9)<;>first|exact cy rfl λi u=>cr Z|exact bt));(solve|((refine' b9)<;>first|exact cy rfl λi u=>cr Z|exact bt));(conv=>whnf);(refine az 52 rfl rfl (λ_ _=>rfl) ?_ ?_ ?_;(solve|try refine' b8);(solve|try refine' b8));(conv=>whnf))|refine' ag|fail)
     all_goals try exact bs
     exact ac ⟨.ok ⟨z,H,l⟩,rfl,L _ rfl⟩
    .have pz := bU z p.wf j Z;obtain⟨q1,Q,w⟩:=yL c k f (t:=j) Z;obtain⟨S,X⟩:∃S,S=s7 a b z j:=⟨_,rfl⟩;have o:=G j Z;rw[<-X]at q1 Q w o;have o:=o.symm;unfold H9 at Q w;rw[<-E]at Q w;repeat'(first|(refine aa (λhb=>?_) (λhb=>absurd hb Z);conv=>whnf)|refine' ag|fail)
     all_goals try exact bs
     refine ae (ι:={s:Nat//s<=S}) [4,6,8,9,11,12,13,14,15,54,55] [4,6,8,52] [] ⟨0,π _⟩ (λ⟨s,_⟩=>S-s) (λ⟨s,_⟩=>[(16,J s)]) (λ_=>[]) ?_ ?_
     .exact⟨⟨rfl,rfl⟩,bt,bt⟩
     .rintro⟨s,hs⟩;conv=>whnf
      have y:((j:Int)-(s:Int)).toNat=j-s:=Z;have b1:=c.bds (t:=s) Z;have O:=k.bds (t:=j-s) Z;rw[<-y]at O;have pl:=pL (a.fn s) (b.fn ((j:Int)-(s:Int)).toNat) Z Z;obtain⟨R,v,pr⟩:=Ia a b z c k p.wf g hd s j Z Z;have d:(s:Int)<=j:=Z;by_cases D:s=S
      .subst D;have m:ba (a.fn s) (b.fn ((j:Int)-(s:Int)).toNat)=z.at j:=by rw[y];exact Q.1
       by_cases C:(j:Int)<(H:Nat)
       .skip;repeat'(first|(refine' aN [] ⟨j+1,Z⟩<;>first|exact cy rfl λi u=>aV o|exact bt)|(refine U m λhb=>?_;conv=>whnf)|(refine U d λhb=>?_;conv=>whnf)|(refine U C λhb=>?_;conv=>whnf)|refine' ag|fail)
        all_goals try exact bs
       .by_cases r:z.at j=4611686018427387904
        .skip;repeat'(first|(refine' aN [] ⟨j+1,Z⟩<;>first|exact cy rfl λi u=>aV o|exact bt)|(refine U m λhb=>?_;conv=>whnf)|(refine U d λhb=>?_;conv=>whnf)|(refine U r λhb=>?_;conv=>whnf)|(refine M C λhb=>?_;conv=>whnf)|refine' ag|fail)
         all_goals try exact bs
        .obtain rfl:R = true:=v.2 (by
          rcases Q.2 with q|q|q
          .exact absurd q Z
          .exact absurd q r
          .exact q)
         repeat'(first|(refine' aN [] ⟨j+1,Z⟩<;>first|exact cy rfl λi u=>aV o|exact bt)|(refine U m λhb=>?_;conv=>whnf)|(refine U d λhb=>?_;conv=>whnf)|(refine M r λhb=>?_;conv=>whnf)|(refine M C λhb=>?_;conv=>whnf)|refine' ag|fail)
         all_goals try exact bs
      .have B:=w s Z;by_cases m:ba (a.fn s) (b.fn ((j:Int)-(s:Int)).toNat)=z.at j
       .have n:ba (a.fn s) (b.fn (j-s))=z.fn j:=by rw[<-y];exact m
        have C:¬(j:Int)<(H:Nat):=λh=>B ⟨n,.inl Z⟩;have r:¬z.at j=4611686018427387904:=λh=>B ⟨n,.inr (.inl h)⟩;have V:R=false:=by
         rcases R with _|_
         .rfl
         .exact absurd ⟨n,.inr (.inr (v.1 rfl))⟩ B
        subst V;repeat'(first|(exact aH [] ⟨s+1,Z⟩)|(refine U d λhb=>?_;conv=>whnf)|(refine U m λhb=>?_;conv=>whnf)|(refine M r λhb=>?_;conv=>whnf)|(refine M C λhb=>?_;conv=>whnf)|refine' ag|fail)
        all_goals try exact bs
       .skip;repeat'(first|(exact aH [] ⟨s+1,Z⟩)|(refine U d λhb=>?_;conv=>whnf)|(refine M m λhb=>?_;conv=>whnf)|refine' ag|fail)
        all_goals try exact bs
 .rw[if_neg g]at P;have f:b6 a b=.error 3:=mD λz p=>absurd (mC c k p) g;refine dp func108 ntmps108 results108 ?_ (hco:=λx=>⟨hcl x _,by simp,rfl⟩);repeat'(first|refine' ag|fail)
  exact ac ⟨.error 3,rfl,by unfold c7;rw[f]⟩
theorem GW(a b:Curve)(h:ar a)(k:ar b):bx 108 [a.av,b.av] (KA (c7 a b)):=by
 obtain⟨_,rfl,p⟩:=Jn a b h k;exact p
def KY(a b z:Curve)(l:List Int)(t:Nat):Prop:=0<=l.getD t 0/\l.getD t 0<=t/\ba (a.fn (l.getD t 0).toNat) (b.fn (t-(l.getD t 0).toNat))=z.fn t/\(eH a b z<=t->z.fn t=cx\/RepP a b z (bj a b) (l.getD t 0).toNat t)
def KX(a b z:Curve)(fr:Int)(l:List Int):Prop:=fr=eH a b z/\l.length=eH a b z+bj a b/\∀t,t<l.length->KY a b z l t
def KW(a b z:Curve):Prop:=∀s u,s<max a.st z.st+bj a b->u<max b.st z.st+bj a b->z.fn (s+u)<=ba (a.fn s) (b.fn u)
theorem wX{a b z:Curve}{fr:Int}{l:List Int}(j:bj a b<=120):CertL a b z fr l↔kM a b z/\KX a b z fr l/\KW a b z :=
 ⟨λc=>⟨⟨c.norm,c.fin,c.gain⟩,⟨c.hor,c.len,c.att⟩,c.below⟩,λ⟨⟨h,H,d⟩,⟨e,f,g⟩,i⟩=>⟨j,h,H,d,e,f,g,i⟩⟩
theorem GX{z:Curve}(h:NrmC z\/InfH z):WfC z:=aY (h.elim (λh=>h.gd.1) λh=>h.valid)
theorem wY{a b z:Curve}(H:ar a)(hb:ar b)(h:kM a b z):∃m:Nat,bj a b=(m+1)*z.per.toNat:=by
 rcases h.1 with d|c
 .exact(h.2.2 d).1
 .have:=gJ H hb;exact⟨bj a b-1,by rw[c.per];show bj a b=(bj a b-1+1)*1;omega⟩
theorem wZ{x:Int}{j:Nat}(h:0<=x)(H:x<=j):∃s:Nat,x=(s:Int)/\s<=j/\x.toNat=s:=⟨x.toNat,Z,Z,rfl⟩
theorem yM(a b z:Curve)(g:ar a)(p:ar b)(u:WfC z)(A:bj a b<=120)(I:∃m:Nat,bj a b=(m+1)*z.per.toNat)(fr:Int)(l:List Int):∃r:Bool,(r=true↔KX a b z fr l)/\bx 178 [.agg (H5 a b (bj a b)),.agg (Spl.cells ⟨z,fr,l⟩)] (.bool r):=by
 have O:=HZ a b z g p u A;have W:=g.st_max;have X:=p.st_max;have l3:z.st<=400:=by have:=u.len;unfold Curve.st;omega
 have L:eH a b z<=918:=by unfold eH;omega
 obtain⟨H,E⟩:∃H,H=eH a b z:=⟨_,rfl⟩;have i:KX a b z fr l↔fr=(H:Nat)/\(l.length:Int)=fr+(bj a b:Nat)/\∀t,t<l.length->KY a b z l t:=by
  unfold KX;rw[<-E];exact⟨λh=>⟨h.1,by have:=h.1;have:=h.2.1;omega,h.2.2⟩,λh=>⟨h.1,by have:=h.1;have:=h.2.1;omega,h.2.2⟩⟩
 rw[<-E]at O L;by_cases C:fr=(H:Nat)
 .by_cases c2 : (l.length:Int)=fr+(bj a b:Nat)
  .refine dp func178 ntmps178 results178 ?_;repeat'(first|(refine ϕ c2 λhb=>?_;conv=>whnf)|(refine ϕ C λhb=>?_;conv=>whnf)|refine' ag|fail)
   all_goals try exact bs
   refine ae (ι:={j:Nat//j<=l.length/\∀t,t<j->KY a b z l t}) [2,3,27,28] [2,3] [] ⟨0,π _,ν⟩ (λ⟨j,_⟩=>l.length-j) (λ⟨j,_⟩=>[(29,J j)]) (λ_=>[]) ?_ ?_
   .exact⟨⟨rfl,rfl⟩,bt,bt⟩
   .rintro⟨j,V,q⟩;conv=>whnf
    by_cases c:(j:Int)<l.length
    .have pz := bU z u j Z;by_cases K:l.getD j 0<0
     .skip;repeat'(first|(refine U K λhb=>?_;conv=>whnf)|(refine U c λhb=>?_;conv=>whnf)|refine' ag|fail)
      all_goals try exact bs
      exact ac ⟨false,rfl,λh=>(by cases h),λh=>absurd ((i.1 h).2.2 j Z).1 Z⟩
     .by_cases d:l.getD j 0>j
      .skip;repeat'(first|(refine U d λhb=>?_;conv=>whnf)|(refine M K λhb=>?_;conv=>whnf)|(refine U c λhb=>?_;conv=>whnf)|refine' ag|fail)
       all_goals try exact bs
       exact ac ⟨false,rfl,λh=>(by cases h),λh=>absurd ((i.1 h).2.2 j Z).2.1 Z⟩
      .obtain⟨s,w,N,G⟩:=wZ (x:=l.getD j 0) (j:=j) Z Z;have f:KY a b z l j↔ba (a.fn s) (b.fn (j-s))=z.fn j/\(H<=j->z.fn j=cx\/RepP a b z (bj a b) s j):=by
        unfold KY;rw[G,<-E];exact⟨λh=>h.2.2,λh=>⟨Z,Z,h⟩⟩
       have P:=bU a g.wf s Z;have B:=bU b p.wf (j-s) Z;rw[<-w]at P;rw[(Z:((j-s:Nat):Int)=(j:Int)-l.getD j 0)]at B;have b1:=g.bds (t:=s) Z;have S:=p.bds (t:=j-s) Z;have pl:=pL (a.fn s) (b.fn (j-s)) Z Z;have D:a.at (l.getD j 0)=a.fn s:=by rw[w];rfl
       have F:b.at ((j:Int)-l.getD j 0)=b.fn (j-s):=by rw[(Z:(j:Int)-l.getD j 0=((j-s:Nat):Int))];rfl
       rw[D]at P;rw[F]at B;obtain⟨R,n,Q⟩:=Ia a b z g p u A I s j N Z;rw[<-w]at Q;by_cases k:ba (a.fn s) (b.fn (j-s))=z.at j
       .by_cases v:(j:Int)>=fr
        .by_cases o:z.at j=4611686018427387904
         .skip;repeat'(first|(exact aM [] ⟨j+1,Z,λt y=>(ζ t j).elim (q t) λh=>by have e:t=j:=Z;subst e;exact f.2 ⟨k,λ_=>.inl o⟩⟩ ⟨⟨rfl,rfl⟩,bt,bt⟩ (by first|omega|(dsimp only;omega)))|(refine ϕ o λhb=>?_;conv=>whnf)|(refine U v λhb=>?_;conv=>whnf)|(refine ϕ k λhb=>?_;conv=>whnf)|(refine M d λhb=>?_;conv=>whnf)|(refine M K λhb=>?_;conv=>whnf)|(refine U c λhb=>?_;conv=>whnf)|refine' ag|fail)
          all_goals try exact bs
         .rcases R with _|_
          .skip;repeat'(first|(refine ϑ o λhb=>?_;conv=>whnf)|(refine U v λhb=>?_;conv=>whnf)|(refine ϕ k λhb=>?_;conv=>whnf)|(refine M d λhb=>?_;conv=>whnf)|(refine M K λhb=>?_;conv=>whnf)|(refine U c λhb=>?_;conv=>whnf)|refine' ag|fail)
           all_goals try exact bs
           exact ac ⟨false,rfl,λh=>(by cases h),λh=>absurd ((f.1 ((i.1 h).2.2 j Z)).2 Z) (λh=>h.elim o λh=>absurd (n.2 h) φ)⟩
          .skip;repeat'(first|(exact aM [] ⟨j+1,Z,λt y=>(ζ t j).elim (q t) λh=>by have e:t=j:=Z;subst e;exact f.2 ⟨k,λ_=>.inr (n.1 rfl)⟩⟩ ⟨⟨rfl,rfl⟩,bt,bt⟩ (by first|omega|(dsimp only;omega)))|(refine ϑ o λhb=>?_;conv=>whnf)|(refine U v λhb=>?_;conv=>whnf)|(refine ϕ k λhb=>?_;conv=>whnf)|(refine M d λhb=>?_;conv=>whnf)|(refine M K λhb=>?_;conv=>whnf)|(refine U c λhb=>?_;conv=>whnf)|refine' ag|fail)
           all_goals try exact bs
        .skip;repeat'(first|(exact aH [] ⟨j+1,Z,λt y=>(ζ t j).elim (q t) λh=>by have e:t=j:=Z;subst e;exact f.2 ⟨k,λh=>absurd h Z⟩⟩)|(refine M v λhb=>?_;conv=>whnf)|(refine ϕ k λhb=>?_;conv=>whnf)|(refine M d λhb=>?_;conv=>whnf)|(refine M K λhb=>?_;conv=>whnf)|(refine U c λhb=>?_;conv=>whnf)|refine' ag|fail)
         all_goals try exact bs
       .skip;repeat'(first|(refine ϑ k λhb=>?_;conv=>whnf)|(refine M d λhb=>?_;conv=>whnf)|(refine M K λhb=>?_;conv=>whnf)|(refine U c λhb=>?_;conv=>whnf)|refine' ag|fail)
        all_goals try exact bs
        exact ac ⟨false,rfl,λh=>(by cases h),λh=>absurd (f.1 ((i.1 h).2.2 j Z)).1 k⟩
    .skip;repeat'(first|(refine M c λhb=>?_;conv=>whnf)|refine' ag|fail)
     all_goals try exact bs
     exact ac ⟨true,rfl,λ_=>i.2 ⟨C,c2,λt y=>q t Z⟩,λ_=>rfl⟩
  .refine⟨false,⟨λh=>(by cases h),λh=>absurd (i.1 h).2.1 c2⟩,?_⟩;refine ee func178 ntmps178 results178 λ_ _ _=>?_;repeat'(first|(refine ϑ c2 λhb=>?_;conv=>whnf)|(refine ϕ C λhb=>?_;conv=>whnf)|refine' aj|fail)
   all_goals first|exact Y|exact bs
 .refine⟨false,⟨λh=>(by cases h),λh=>absurd (i.1 h).1 C⟩,?_⟩;refine ee func178 ntmps178 results178 λ_ _ _=>?_;repeat'(first|(refine ϑ C λhb=>?_;conv=>whnf)|refine' aj|fail)
  all_goals first|exact Y|exact bs
theorem GY(a b z:Curve)(f:ar a)(K:ar b)(l:WfC z)(F:bj a b<=120):∃r:Bool,(r=true↔KW a b z)/\bx 180 [.agg (H5 a b (bj a b)),z.av] (.bool r):=by
 have S:bx 156 [a.av] (J (a.st:Int)):=aK a f.wf;have x:bx 156 [b.av] (J (b.st:Int)):=aK b K.wf;have y:bx 156 [z.av] (J (z.st:Int)):=aK z l;have O:=f.st_max;have P:=K.st_max;have Q:z.st<=400:=by have:=l.len;unfold Curve.st;omega
 obtain⟨X,v⟩:∃X,X=max a.st z.st+bj a b:=⟨_,rfl⟩;obtain⟨N,w⟩:∃N,N=max b.st z.st+bj a b:=⟨_,rfl⟩;have o:max (a.st:Int) z.st+(bj a b:Nat)=(X:Nat):=Z;have p:max (b.st:Int) z.st+(bj a b:Nat)=(N:Nat):=Z;have q:(X:Int)+(N:Nat)=((X+N:Nat):Int):=Z;have A:=dr a f.wf X Z;have B:=dr b K.wf N Z;have C:=dr z l (X+N) Z;have I:KW a b z↔∀s u,s<X->u<N->z.fn (s+u)<=ba (a.fn s) (b.fn u):=by
  unfold KW;rw[<-v,<-w]
 refine dp func180 ntmps180 results180 ?_;repeat'(first|(refine fg ?_;conv=>whnf)|(refine aa (λhb=>?_) (λhb=>?_)<;>conv=>whnf)|(refine ak (λhb=>?_) (λhb=>?_)<;>conv=>whnf)|(refine Side.mk ?_ ?_;rotate_left;conv=>whnf)|(refine SubS.mk ?_ ?_;rotate_left;conv=>whnf)|(refine VCells.mk ⟨_,rfl,?_⟩;conv=>whnf)|(refine DrawOk.mk ⟨rfl,rfl⟩ ?_;conv=>whnf)|(refine am (S) ?_;conv=>whnf)|(refine am (x) ?_;conv=>whnf)|(refine am (y) ?_;conv=>whnf)|(rw[o];conv=>whnf)|(rw[p];conv=>whnf)|(rw[q];conv=>whnf)|(refine am (A) ?_;conv=>whnf)|(refine am (B) ?_;conv=>whnf)|(refine am (C) ?_;conv=>whnf)|(refine a9 (λhb=>?_) (λhb=>?_)<;>conv=>whnf))
 all_goals try exact bs
 refine ae (ι:={j:Nat//j<=X/\∀s u,s<j->u<N->z.fn (s+u)<=ba (a.fn s) (b.fn u)}) [6,7,43,44] [] [] ⟨0,π _,λs u i=>absurd i (Nat.not_lt_zero s)⟩ (λ⟨j,_⟩=>X-j) (λ⟨j,_⟩=>[(45,J j)]) (λ_=>[]) ?_ ?_
 .exact⟨⟨rfl,rfl⟩,bt,bt⟩
 .rintro⟨j,G,m⟩;conv=>whnf
  by_cases d:(j:Int)<X
  .skip;repeat'(first|(refine U d λhb=>?_;conv=>whnf)|refine' ag|fail)
   all_goals try exact bs
   refine ae (ι:={k:Nat//k<=N/\∀u,u<k->z.fn (j+u)<=ba (a.fn j) (b.fn u)}) [6,7,8,9,43,44,45,50,51] [] [] ⟨0,π _,ν⟩ (λ⟨k,_⟩=>N-k) (λ⟨k,_⟩=>[(52,J k)]) (λ_=>[]) ?_ ?_
   .exact⟨⟨rfl,rfl⟩,bt,bt⟩
   .rintro⟨k,L,n⟩;conv=>whnf
    by_cases c:(k:Int)<N
    .have E:((j:Int)+(k:Int)).toNat=j+k:=Z;have b1:=f.bds (t:=j) Z;have D:=K.bds (t:=k) Z;have R:=pL (a.fn j) (b.fn k) Z Z;by_cases H:z.fn ((j:Int)+(k:Int)).toNat>ba (a.fn j) (b.fn k)
     .skip;repeat'(first|(refine U H λhb=>?_;conv=>whnf)|(refine U c λhb=>?_;conv=>whnf)|refine' ag|fail)
      all_goals try exact bs
      exact ac ⟨false,rfl,λh=>(by cases h),λh=>absurd (I.1 h j k Z Z) (by rw[E]at H;omega)⟩
     .skip;repeat'(first|(exact aH [] ⟨k+1,Z,λu g=>(ζ u k).elim (n u) λh=>by have e:u=k:=Z;subst e;rw[E]at H;omega⟩)|(refine M H λhb=>?_;conv=>whnf)|(refine U c λhb=>?_;conv=>whnf)|refine' ag|fail)
      all_goals try exact bs
    .skip;repeat'(first|(exact aH [] ⟨j+1,Z,λs u i g=>(ζ s j).elim (λh=>m s u h g) λh=>by have e:s=j:=Z;subst e;exact n u Z⟩)|(refine M c λhb=>?_;conv=>whnf)|refine' ag|fail)
     all_goals try exact bs
  .skip;repeat'(first|(refine M d λhb=>?_;conv=>whnf)|refine' ag|fail)
   all_goals try exact bs
   exact ac ⟨true,rfl,λ_=>I.2 λs u i g=>m s u Z g,λ_=>rfl⟩
end Go.Nc