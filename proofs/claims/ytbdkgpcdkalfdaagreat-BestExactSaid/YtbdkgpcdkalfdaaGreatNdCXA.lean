/- Parts. -/
import Derived.Test.YtbdkgpcdkalfdaaGreatNdCWA
namespace Go.Nc
open Go.Proofs.Tryz
open Go.Proofs
set_option maxHeartbeats 8000000
theorem sM(f:FuncId)(o O:LObj)(k:o.live=true)(a:eu [] o)(l:O.live=true)(b:eu [] O)(F:Nat->Int)(s p m:Nat)(inc:Int)(B:1<=p/\s+p<=1000000)(A:m<s+p/\m+1<=400)(r:∀t,t<m->0<=F t/\F t<=1073741824)(h:F m=cx)
  (H:∀t:Nat,t<=m->bx f [J t,.lptr 901 0,.lptr 902 0] [(901,o),(902,O)] (J (F t)) [(901,o),(902,O)]) :
  ∃x,x=.ok ⟨(List.range (m+1)).map F,1,0⟩/\bx 92 [.fn f [.lptr 901 0,.lptr 902 0],J s,J p,J inc] [(901,o),(902,O)] (ax x) [(901,o),(902,O)]:=by
 have hcl:∀q∈[(901,o),(902,O)],eu ([(901,o),(902,O)].map (·.1)) q.2:=λq hq=>by
  simp only[List.mem_cons,List.not_mem_nil,or_false]at hq;rcases hq with rfl|rfl
  .exact bk a _
  .exact bk b _
 refine dp func92 ntmps92 results92 ?_ (hcl:=⟨by simp[k,l],rfl,hcl⟩) (hco:=λx=>⟨aB x _,hcl,rfl⟩);repeat'(first|refine' aj|fail)
 all_goals try exact bs
 refine ae (ι:={j:Nat//j<=m}) [0,1,2,3,8] [901,902,8] [] ⟨0,Z⟩ (λ⟨j,_⟩=>s+p-j) (λ⟨j,_⟩=>[(10,.osl 17 (s+p)),(19,J (s+p)),(20,J j)]) (λ⟨j,_⟩=>[(17,some (.arr (s+p) 1 (dH F j) 3))]) ?_ ?_
 .refine⟨⟨rfl,rfl⟩,?_,?_⟩;all_goals((refine' subP)<;>first|exact fl Z λi u=>rfl|exact Ξ (congrArg (AV.osl 17) Z)|exact bt)
 .rintro⟨j,z⟩;conv=>whnf
  have w:(j:Int)<(s:Int)+p:=Z;have E:(j:Int).toNat=j:=Z;by_cases d:j=m
  .subst d;obtain⟨X,v,pe⟩:=fj (j+1) Z F;rcases X with e|c
   .obtain⟨_,q|⟨i,D,Q,y⟩⟩:=v
    .omega
    .rcases ξ i j with g|g
     .have:=r i g;omega
     .obtain rfl:i=j:=Z;exact absurd h y
   .obtain⟨_,Q,_⟩:=v;subst Q;repeat'(first|(refine U h λhb=>?_;conv=>whnf)|(refine fg ?_;conv=>whnf)|(refine aa (λhb=>?_) (λhb=>?_)<;>conv=>whnf)|(refine aq (λhb=>?_) (λhb=>?_)<;>conv=>whnf)|(refine Side.mk ?_ ?_;rotate_left;conv=>whnf)|(refine SubS.mk ?_ ?_;rotate_left;conv=>whnf)|(refine VCells.mk ⟨_,rfl,?_⟩;conv=>whnf)|(refine DrawOk.mk ⟨rfl,rfl⟩ ?_;conv=>whnf)|(refine bA (H j (π _)) ⟨rfl,rfl,trivial⟩ ⟨trivial,trivial,trivial⟩ ?_;conv=>whnf)|(dsimp only;rw[Nat.beq_refl];conv=>whnf)|(refine bR [] [] pe rfl ?_ ?_ ?_ ?_;rotate_left;rotate_left;rotate_left;conv=>whnf)|(refine aA (λhb=>?_) (λhb=>?_)<;>conv=>whnf))
    all_goals try first|exact bs|exactλi u=>(show(bif Nat.beq i j then[J (F j)]else dH F j i)=_ from cX Z)|exactλi _=>(by cases i.beq (j:Int).toNat<;>rfl)
    exact aK ⟨_,rfl,⟨rfl,rfl,trivial⟩,rfl⟩
  .have C:=r j Z;have n:¬F j=cx:=by unfold cx;omega
   repeat'(first|(refine' aO [] ⟨j+1,Z⟩<;>first|exact fl rfl λi u=>aU rfl|exact bt)|(refine M n λhb=>?_;conv=>whnf)|(refine fg ?_;conv=>whnf)|(refine aa (λhb=>?_) (λhb=>?_)<;>conv=>whnf)|(refine aq (λhb=>?_) (λhb=>?_)<;>conv=>whnf)|(refine Side.mk ?_ ?_;rotate_left;conv=>whnf)|(refine SubS.mk ?_ ?_;rotate_left;conv=>whnf)|(refine VCells.mk ⟨_,rfl,?_⟩;conv=>whnf)|(refine DrawOk.mk ⟨rfl,rfl⟩ ?_;conv=>whnf)|(refine bA (H j Z) ⟨rfl,rfl,trivial⟩ ⟨trivial,trivial,trivial⟩ ?_;conv=>whnf)|(dsimp only;rw[Nat.beq_refl];conv=>whnf)|(refine aA (λhb=>?_) (λhb=>?_)<;>conv=>whnf))
   all_goals try exact bs
theorem yy(f:FuncId)(o O:LObj)(g:o.live=true)(a:eu [] o)(k:O.live=true)(b:eu [] O)(F:Nat->Int)(s p m:Nat)(inc:Int)(z:1<=p/\s+p<=1000000)(y:m<s+p/\400<m+1)(r:∀t,t<m->0<=F t/\F t<=1073741824)(H:F m=cx)
  (h:∀t:Nat,t<=m->bx f [J t,.lptr 901 0,.lptr 902 0] [(901,o),(902,O)] (J (F t)) [(901,o),(902,O)]) :
  ∃x:Except Int Curve,x=.error 3/\bx 92 [.fn f [.lptr 901 0,.lptr 902 0],J s,J p,J inc] [(901,o),(902,O)] (ax x) [(901,o),(902,O)]:=by
 have hcl:∀q∈[(901,o),(902,O)],eu ([(901,o),(902,O)].map (·.1)) q.2:=λq hq=>by
  simp only[List.mem_cons,List.not_mem_nil,or_false]at hq;rcases hq with rfl|rfl
  .exact bk a _
  .exact bk b _
 refine dp func92 ntmps92 results92 ?_ (hcl:=⟨by simp[g,k],rfl,hcl⟩) (hco:=λx=>⟨aB x _,hcl,rfl⟩);repeat'(first|refine' aj|fail)
 all_goals try exact bs
 refine ae (ι:={j:Nat//j<=m}) [0,1,2,3,8] [901,902,8] [] ⟨0,Z⟩ (λ⟨j,_⟩=>s+p-j) (λ⟨j,_⟩=>[(10,.osl 17 (s+p)),(19,J (s+p)),(20,J j)]) (λ⟨j,_⟩=>[(17,some (.arr (s+p) 1 (dH F j) 3))]) ?_ ?_
 .refine⟨⟨rfl,rfl⟩,?_,?_⟩;all_goals((refine' subP)<;>first|exact fl Z λi n=>rfl|exact Ξ (congrArg (AV.osl 17) Z)|exact bt)
 .rintro⟨j,w⟩;conv=>whnf
  have u:(j:Int)<(s:Int)+p:=Z;have E:(j:Int).toNat=j:=Z;by_cases d:j=m
  .subst d;obtain⟨X,Q,pe⟩:=fj (j+1) Z F;rcases X with e|c;rotate_left
   .have:=Q.1;omega
   .obtain⟨v,_⟩:=Q;subst v;repeat'(first|(refine U H λhb=>?_;conv=>whnf)|(refine fg ?_;conv=>whnf)|(refine aa (λhb=>?_) (λhb=>?_)<;>conv=>whnf)|(refine aq (λhb=>?_) (λhb=>?_)<;>conv=>whnf)|(refine Side.mk ?_ ?_;rotate_left;conv=>whnf)|(refine SubS.mk ?_ ?_;rotate_left;conv=>whnf)|(refine VCells.mk ⟨_,rfl,?_⟩;conv=>whnf)|(refine DrawOk.mk ⟨rfl,rfl⟩ ?_;conv=>whnf)|(refine bA (h j (π _)) ⟨rfl,rfl,trivial⟩ ⟨trivial,trivial,trivial⟩ ?_;conv=>whnf)|(dsimp only;rw[Nat.beq_refl];conv=>whnf)|(refine bR [] [] pe rfl ?_ ?_ ?_ ?_;rotate_left;rotate_left;rotate_left;conv=>whnf)|(refine aA (λhb=>?_) (λhb=>?_)<;>conv=>whnf))
    all_goals try first|exact bs|exactλi n=>(show(bif Nat.beq i j then[J (F j)]else dH F j i)=_ from cX Z)|exactλi _=>(by cases i.beq (j:Int).toNat<;>rfl)
    exact aK ⟨_,rfl,⟨rfl,rfl,trivial⟩,rfl⟩
  .have A:=r j Z;have l:¬F j=cx:=by unfold cx;omega
   repeat'(first|(refine' aO [] ⟨j+1,Z⟩<;>first|exact fl rfl λi n=>aU rfl|exact bt)|(refine M l λhb=>?_;conv=>whnf)|(refine fg ?_;conv=>whnf)|(refine aa (λhb=>?_) (λhb=>?_)<;>conv=>whnf)|(refine aq (λhb=>?_) (λhb=>?_)<;>conv=>whnf)|(refine Side.mk ?_ ?_;rotate_left;conv=>whnf)|(refine SubS.mk ?_ ?_;rotate_left;conv=>whnf)|(refine VCells.mk ⟨_,rfl,?_⟩;conv=>whnf)|(refine DrawOk.mk ⟨rfl,rfl⟩ ?_;conv=>whnf)|(refine bA (h j Z) ⟨rfl,rfl,trivial⟩ ⟨trivial,trivial,trivial⟩ ?_;conv=>whnf)|(dsimp only;rw[Nat.beq_refl];conv=>whnf)|(refine aA (λhb=>?_) (λhb=>?_)<;>conv=>whnf))
   all_goals try exact bs
def lj(c:Curve)(m:Int):Nat->Int:=λt=>if t=0 then 0 else if c.fn (t-1)=cx then cx else max 0 (c.fn (t-1)-(m-1))
theorem IX(c:Curve)(h:a6 c)(m:Int)(b:1<=m/\m<=1500)(t:Nat)(d:t<=100000):∃x:Int,x=lj c m t/\bx 89 [J t,.lptr 901 0,.lptr 902 0] [(901,.box c.cells),(902,.box [J m])] (J x) [(901,.box c.cells),(902,.box [J m])]:=by
 have f:=h.val (t:=t-1) Z;have hcl:∀q∈[(901,LObj.box c.cells),(902,LObj.box [J m])],eu ([(901,LObj.box c.cells),(902,LObj.box [J m])].map (·.1)) q.2:=λq hq=>by
  simp only[List.mem_cons,List.not_mem_nil,or_false]at hq;rcases hq with rfl|rfl<;>rfl
 by_cases a:t=0
 .subst a;refine dp func89 ntmps89 results89 ?_ (hcl:=⟨rfl,rfl,hcl⟩) (hco:=λx=>⟨rfl,hcl,rfl⟩);repeat'(first|refine' aj|fail)
  all_goals try first|(exfalso;omega)|exact bs
  all_goals exact aK ⟨_,rfl,⟨rfl,rfl,trivial⟩,rfl⟩
 .have p:=cu c h.wf (t-1) Z;rw[(Z:((t-1:Nat):Int)=(t:Int)-1),show c.at ((t:Int)-1)=c.fn (t-1) by unfold Curve.fn;rw[(Z:((t-1:Nat):Int)=(t:Int)-1)]]at p;have e:lj c m t=if c.fn (t-1)=cx then cx else max 0 (c.fn (t-1)-(m-1)):=if_neg a
  refine dp func89 ntmps89 results89 ?_ (hcl:=⟨rfl,rfl,hcl⟩) (hco:=λx=>⟨rfl,hcl,rfl⟩);repeat'(first|refine' aj|fail)
  all_goals try first|(exfalso;omega)|omega|(unfold ah cx at *;omega)
  all_goals
   refine aK ⟨_,rfl,⟨rfl,rfl,trivial⟩,?_⟩;rw[e];by_cases H:c.fn (t-1)=cx
   .rw[if_pos H];first|exact H|exact absurd H ‹_›
   .rw[if_neg H]<;>first|rfl|exact absurd ‹_› H
theorem u6(c:Curve)(h:a6 c)(m:Int)(H:1<=m/\m<=1500)(t:Nat)(a:t<=100000):bx 89 [J t,.lptr 901 0,.lptr 902 0] [(901,.box c.cells),(902,.box [J m])] (J (lj c m t)) [(901,.box c.cells),(902,.box [J m])]:=by
 obtain⟨_,rfl,p⟩:=IX c h m H t a;exact p
theorem Ab{c:Curve}(h:NrmC c)(m:Int){t:Nat}(a:t<=100000):lj c m t=na c.fn (m-1) t:=by
 unfold lj na;by_cases H:t=0
 .rw[if_pos H,if_pos H]
 .rw[if_neg H,if_neg H,if_neg];have:=h.lt (t:=t-1) Z;omega
theorem yz{c:Curve}(h:NrmC c){m:Int}(H:0<=m){t:Nat}(a:t<=100000):0<=na c.fn m t/\na c.fn m t<=36028797018963968:=by
 unfold na;have:=h.bd (t-1);split<;>omega
theorem IY(c:Curve)(h:NrmC c)(m:Int)(y:1<=m/\m<=1500):q0e 54 [c.av,J m] (ax (n4 c (m-1))):=by
 have d:a6 c:=.inl h;have P:=de d;have g:=d.wf;have D:=g.len;have E:=g.per;have H:=g.inc;have F:=aN c g;have G:=cu c g 399 Z;have A:c.st=c.vals.length-c.per.toNat:=rfl;have n:c.fn 399=c.at ((399:Nat):Int):=rfl;rw[sK h];have a:∀s:Nat,c.st+1<=s->s<=400->(c.inc=0\/m-1<=c.fn (s-1))->∃x,gk (na c.fn (m-1))=x/\bx 92 [.fn 89 [.lptr 901 0,.lptr 902 0],J s,J c.per,J c.inc] [(901,.box c.cells),(902,.box [J m])] (ax x) [(901,.box c.cells),(902,.box [J m])]:=λs B C o=>by
  obtain⟨x,⟨_,u⟩,p⟩:=l7 89 (.box c.cells) (.box [J m]) rfl rfl rfl rfl (na c.fn (m-1)) s c.per.toNat c.inc Z Z (λt i=>.inl (yz h Z Z)) (λt i=>by rw[<-Ab h m Z];exact u6 c d m y t Z);have r:=u5 (m:=m-1) h.gd.rep (λs t k=>h.mono k) H.1 (b:=s) Z o;have q:=u (λt i=>by have:=yz h (m:=m-1) Z (t:=t) Z;unfold cx;omega) (λt i=>r.2 t i);rw[(Z:((c.per.toNat:Nat):Int)=c.per)]at p;exact⟨x,q.eq.symm,p⟩
 by_cases w:c.inc=0
 .obtain⟨x,l,p⟩:=a (c.st+1) Z (by have:=d.st_max;omega) (.inl w);rw[l];rw[(Z:((c.st+1:Nat):Int)=((c.vals.length-c.per.toNat:Nat):Int)+1)]at p;rcases x with e|z
  .refine ee func54 ntmps54 results54 λ_ _ _=>?_;repeat'(first|(refine aT [4,5,7] [4] [(901,6),(902,3)] [(6,.lptr 901 0),(3,.lptr 902 0)] [(901,some (.box c.cells)),(902,some (.box [J m]))] ⟨⟨rfl,rfl⟩,bt,bt⟩ ?_;conv=>whnf)|refine' ak|(refine bA p ⟨rfl,rfl,trivial⟩ ⟨trivial,trivial,trivial⟩ ?_;conv=>whnf))
   all_goals first|(exfalso;omega)|exact bs|exact Θ
  .refine ee func54 ntmps54 results54 λ_ _ _=>?_;repeat'(first|(refine aT [4,5,7] [4] [(901,6),(902,3)] [(6,.lptr 901 0),(3,.lptr 902 0)] [(901,some (.box c.cells)),(902,some (.box [J m]))] ⟨⟨rfl,rfl⟩,bt,bt⟩ ?_;conv=>whnf)|refine' ak|(refine bA p ⟨rfl,rfl,trivial⟩ ⟨trivial,trivial,trivial⟩ ?_;conv=>whnf))
   all_goals first|(exfalso;omega)|exact bs|exact Θ
 .by_cases v:m-1<=c.fn 399
  .obtain⟨x,l,p⟩:=a 400 (by have:=d.st_max;omega) Z (.inr v);rw[l];rcases x with e|z
   .refine ee func54 ntmps54 results54 λ_ _ _=>?_;repeat'(first|(refine aT [4,5,7] [4] [(901,6),(902,3)] [(6,.lptr 901 0),(3,.lptr 902 0)] [(901,some (.box c.cells)),(902,some (.box [J m]))] ⟨⟨rfl,rfl⟩,bt,bt⟩ ?_;conv=>whnf)|refine' ak|(refine bA p ⟨rfl,rfl,trivial⟩ ⟨trivial,trivial,trivial⟩ ?_;conv=>whnf))
    all_goals first|(exfalso;omega)|exact bs|exact Θ
   .refine ee func54 ntmps54 results54 λ_ _ _=>?_;repeat'(first|(refine aT [4,5,7] [4] [(901,6),(902,3)] [(6,.lptr 901 0),(3,.lptr 902 0)] [(901,some (.box c.cells)),(902,some (.box [J m]))] ⟨⟨rfl,rfl⟩,bt,bt⟩ ?_;conv=>whnf)|refine' ak|(refine bA p ⟨rfl,rfl,trivial⟩ ⟨trivial,trivial,trivial⟩ ?_;conv=>whnf))
    all_goals first|(exfalso;omega)|exact bs|exact Θ
  .have j:rl (na c.fn (m-1)):=sL (f:=c.fn) (m:=m-1) h.gd.rep (λs t k=>h.mono k) Z Z;rw[<-CanQ.eq (x:=.error 3) ⟨rfl,j⟩];refine' db func54 ntmps54 results54
   all_goals first|(exfalso;omega)|exact bs|exact Θ
theorem GP(k:Nat)(n:k<=398)(m:Int)(o:1<=m/\m<=1500):q0e 54 [(au k).av,J m] (ax (n4 (au k) (m-1))):=by
 obtain⟨c,E⟩:∃c,c=au k:=⟨_,rfl⟩;have d:a6 c:=.inr ⟨k,n,E⟩;have s:=de d;have P:=aN c d.wf;have u:True:=trivial;have i:c.vals.length-c.per.toNat=k+1:=by rw[E];exact d9 k
 have H:c.per=1:=by rw[E];rfl
 have h:c.inc=0:=by rw[E];rfl
 rw[i]at P;have f:∀t,lj c m t=wF (k+1) t:=λt=>by
  unfold lj wF;rw[E,ce n];unfold wF;by_cases j:t=0
  .rw[if_pos j,if_pos Z]
  .rw[if_neg j];by_cases a:t<=k+1
   .rw[if_pos a,if_pos (Z:t-1<=k),if_neg η];omega
   .rw[if_neg a,if_neg (Z:¬t-1<=k),if_pos rfl]
 have l:∀t,t<k+2->0<=lj c m t/\lj c m t<=1073741824:=λt g=>by
  rw[f,show wF (k+1) t=0 from if_pos Z];omega
 have q:∃x,n4 c (m-1)=x/\bx 92 [.fn 89 [.lptr 901 0,.lptr 902 0],J ((k+1:Nat)+1:Int),J c.per,J c.inc] [(901,.box c.cells),(902,.box [J m])] (ax x) [(901,.box c.cells),(902,.box [J m])]:=by
  rw[E,zY,<-E];by_cases a:k+1<=398
  .obtain⟨x,b,p⟩:=sM 89 (.box c.cells) (.box [J m]) rfl rfl rfl rfl (lj c m) (k+2) 1 (k+2) 0 Z Z l (by rw[f];exact if_neg Z) (λt g=>u6 c d m o t Z);rw[(Z:(((k+2:Nat)):Int)=((k+1:Nat):Int)+1)]at p;rw[H,h];refine⟨x,?_,p⟩;rw[if_pos a,b];refine congrArg Except.ok ?_;unfold au;congr 1;refine List.map_congr_left λt g=>?_;simp only[List.mem_range]at g;rw[f];unfold dQ wF;by_cases e:t=k+1+1
   .rw[if_pos e,if_neg Z]
   .rw[if_neg e,if_pos Z]
  .obtain⟨x,b,p⟩:=yy 89 (.box c.cells) (.box [J m]) rfl rfl rfl rfl (lj c m) (k+2) 1 (k+2) 0 Z Z l (by rw[f];exact if_neg Z) (λt g=>u6 c d m o t Z);rw[(Z:(((k+2:Nat)):Int)=((k+1:Nat):Int)+1)]at p;rw[H,h];exact⟨x,by rw[if_neg a,b],p⟩
 obtain⟨x,b,r⟩:=q;rw[<-E,b];rcases x with e|z;all_goals
  refine ee func54 ntmps54 results54 λ_ _ _=>?_;repeat'(first|(refine aT [4,5,7] [4] [(901,6),(902,3)] [(6,.lptr 901 0),(3,.lptr 902 0)] [(901,some (.box c.cells)),(902,some (.box [J m]))] ⟨⟨rfl,rfl⟩,bt,bt⟩ ?_;conv=>whnf)|refine' ak|(refine bA r ⟨rfl,rfl,trivial⟩ ⟨trivial,trivial,trivial⟩ ?_;conv=>whnf))
  all_goals first|(exfalso;omega)|exact bs|exact Θ
theorem HO(c:Curve)(h:a6 c)(m:Int)(H:1<=m/\m<=1500):q0e 54 [c.av,J m] (ax (n4 c (m-1))):=by
 rcases h with h|⟨k,a,rfl⟩
 .exact IY c h m H
 .exact GP k a m H
theorem Ej{c:Curve}(i:WfC c)(f:c.vals.getD (c.vals.length-1) 0=cx):∃m,m<c.vals.length/\c.vals.getD m 0=cx/\∀t,t<m->c.vals.getD t 0≠cx:=by
 have j:=i.len;suffices h:∀n,n<c.vals.length->c.vals.getD n 0=cx->∃m,m<=n/\c.vals.getD m 0=cx/\∀t,t<m->c.vals.getD t 0≠cx by
  obtain⟨m,a,H⟩:=h (c.vals.length-1) Z f;exact⟨m,Z,H⟩
 intro n;induction n using Nat.strongRecOn with
 |ind n ih=>
  intro l d;by_cases h:∃t,t<n/\c.vals.getD t 0=cx
  .obtain⟨t,a,H⟩:=h;obtain⟨m,k,b⟩:=ih t a Z H;exact⟨m,Z,b⟩
  .exact⟨n,π _,d,λt g e=>h ⟨t,g,e⟩⟩
theorem BJ(c:Curve)(m:Nat)(a:m<c.vals.length):(List.range (m+1)).map (λt:Nat=>c.at t)=c.vals.take (m+1):=by
 apply List.ext_getElem
 .simp;omega
 .intro i h H;simp only[List.length_map,List.length_range]at h;simp only[List.getElem_map,List.getElem_range,List.getElem_take];rw[bH Z];simp[(Z:i<c.vals.length)]
theorem BK(c:Curve)(b:c.valid=true)(m:Nat)(H:m<c.vals.length)(f:c.vals.getD m 0=cx)(e:∀t,t<m->c.vals.getD t 0≠cx):q0e 88 [c.av] (ax (.ok ⟨c.vals.take (m+1),1,0⟩)):=by
 have P:=dX c;rw[b]at P;have h:=aY b;have g:=h.len;have j:=h.per;have k:=iv c.vals Z;have l:=aN c h;obtain ⟨x,d,p⟩:=pN 160 (.box c.cells) rfl rfl (fun t=>c.at t) (c.vals.length - c.per.toNat) c.per.toNat m c.inc Z Z (fun t a=>by
  have:=(h.getD (i:=t) Z);rw[bH Z];have:=e t a;omega) (by rw[bH H];exact f) (λt a=>CJ c h t Z)
 rw[BJ c m H]at d;subst d;rw[(Z:((c.per.toNat:Nat):Int)=c.per)]at p;refine ee func88 ntmps88 results88 λ_ _ _=>?_;repeat'(first|(refine aT [2,3] [2] [(901,1)] [(1,.lptr 901 0)] [(901,some (.box c.cells))] ⟨⟨rfl,rfl⟩,bt,bt⟩ ?_;conv=>whnf)|refine' ak|refine bT p ?_)
 all_goals exact Θ
theorem Ek{h:Curve}(H:h.valid=true)(c:h.vals.getD (h.vals.length-1) 0=cx):h.per=1/\h.inc=0:=by
 have a:=(aY H).len;unfold Curve.valid at H;split at H
 .cases H
 .rcases e:fo 0 h.vals with _|r
  .rw[e]at H;cases H
  .rw[e]at H;dsimp only at H;rw[if_pos ((gm e (by intro b;rw[b]at a;simp at a)).symm.trans c)]at H;simpa using H
theorem a6.first{c:Curve}(h:a6 c):c.vals.getD 0 0≠cx:=by
 rcases h with h|⟨k,H,rfl⟩
 .exact h.gd.2.getD (by have:=h.per;omega)
 .rw[bZ Z];unfold dQ;rw[if_neg Z];decide
theorem GQ{P p:Nat}(H:1<=P):((P:Int).tmod p=0)↔∃m:Nat,P=(m+1)*p:=by
 rw[Int.tmod_eq_emod_of_nonneg Z];constructor
 .intro h;have a:p∣P:=by have:=Int.dvd_of_emod_eq_zero h;exact Int.natCast_dvd_natCast.1 this
  exact qB a H
 .rintro⟨m,e⟩;rw[e,Int.natCast_mul];exact Int.mul_emod_left _ _
theorem El{p:Nat->Prop}:∀n,p n->∃m,m<=n/\p m/\∀k,k<m->¬p k:=by
 intro n;induction n using Nat.strongRecOn with
 |ind n ih=>
  intro h;by_cases g:∃k,k<n/\p k
  .obtain⟨k,H,a⟩:=g;obtain⟨m,e,b⟩:=ih k H a;exact⟨m,Z,b⟩
  .exact⟨n,π _,h,λk c d=>g ⟨k,c,d⟩⟩
def H9(a b z:Curve)(t s:Nat):Prop:=br (a.fn s) (b.fn (t-s))=z.fn t/\(t<eH a b z\/z.fn t=cx\/RepP a b z (bj a b) s t)
open Classical in
noncomputable def s7(a b z:Curve)(t:Nat):Nat:=if h:∃m,m<=t/\H9 a b z t m/\∀k,k<m->¬H9 a b z t k then Classical.choose h else 0
theorem y5{a b z:Curve}(f:a6 a)(hb:a6 b)(h:bE a b=.ok z){t:Nat}(i:t<=1000000):s7 a b z t<=t/\H9 a b z t (s7 a b z t)/\∀k,k<s7 a b z t->¬H9 a b z t k:=by
 have H:∃m,m<=t/\H9 a b z t m/\∀k,k<m->¬H9 a b z t k:=by
  obtain⟨s,j,c,d⟩:=uz f hb h i;obtain ⟨m,l,e⟩:=El (p:=H9 a b z t) s ⟨c,by
   rcases ξ t (eH a b z)with g|g
   .exact .inl g
   .exact .inr (d g)⟩
  exact⟨m,Z,e⟩
 unfold s7;rw[dif_pos H];exact Classical.choose_spec H
noncomputable def J1(a b z:Curve):List Int:=(List.range (eH a b z+bj a b)).map λt=>(s7 a b z t:Int)
theorem u7(a b z:Curve):(J1 a b z).length=eH a b z+bj a b:=by simp[J1]
theorem Ac{a b z:Curve}{t:Nat}(h:t<eH a b z+bj a b):(J1 a b z).getD t 0=(s7 a b z t:Int):=by
 unfold J1;simp[h]
noncomputable def bY(a b:Curve):Except Int Spl:=match bE a b with
 |.error e=>.error e
 |.ok z=>.ok ⟨z,eH a b z,J1 a b z⟩
def Spl.cells(p:Spl):List AV:=[c4 p.res.vals,J p.res.per,J p.res.inc,J p.fr,c4 p.at_]
def KA:Except Int Spl->AV
 |.ok p=>.tup [.agg p.cells,J 0]
 |.error e=>.tup [.agg [.nils,J 0,J 0,J 0,.nils],J e]
theorem ml{a b:Curve}{p:Spl}(h:bY a b=.ok p):bE a b=.ok p.res/\p.fr=eH a b p.res/\p.at_=J1 a b p.res:=by
 unfold bY at h;rcases e:bE a b with E|z
 .rw[e]at h;cases h
 .rw[e]at h;cases h;exact⟨rfl,rfl,rfl⟩
theorem nq{a b:Curve}{e:Int}(h:bY a b=.error e):bE a b=.error e:=by
 unfold bY at h;rcases e2:bE a b with E|z
 .rw[e2]at h;cases h;rfl
 .rw[e2]at h;cases h
theorem Em{a b z:Curve}(h:a6 a)(hb:a6 b)(H:a6 z)(c:bj a b<=120):eH a b z<=918:=by
 have l:=h.st_max;have L:=hb.st_max;have d:=H.st_max;unfold eH;omega
theorem BL{a b:Curve}{p:Spl}(d:a6 a)(hb:a6 b)(h:bY a b=.ok p):CertL a b p.res p.fr p.at_:=by
 obtain⟨H,e,f⟩:=ml h;obtain⟨z,fr,l⟩:=p;dsimp only at H e f⊢;subst e f;have c:=Ed d hb H;have k:=Em d hb (dL d hb H).1 c.le;have j:=c.le;refine⟨c.le,c.norm,c.fin,c.gain,rfl,u7 ..,λt i=>?_,c.below⟩;rw[u7]at i;rw[Ac i];obtain⟨m,Q,_⟩:=y5 d hb H (t:=t) Z;refine⟨Z,Z,?_,λg=>?_⟩
 .rw[β];exact Q.1
 .rw[β];rcases Q.2 with q|q
  .omega
  .exact q
theorem mn{a b:Curve}{e:Int}(h:bE a b=.error e):e=3:=by
 have:=mj (a:=a) (b:=b) (λz H=>by rw[h]at H;cases H);rw[h]at this;cases this;rfl
theorem GR{a b z:Curve}(H:a6 a)(hb:a6 b)(h:bE a b=.ok z):∃m:Nat,bj a b=(m+1)*z.per.toNat:=by
 obtain⟨e,f⟩:=jV H hb h;by_cases d:NrmC a\/NrmC b
 .exact(f d).1
 .have c:=(dL H hb h).1;rcases c with c|⟨k,g,rfl⟩
  .exact absurd (e.1 c) d
  .have:=j6 H hb;exact⟨bj a b-1,by show bj a b=(bj a b-1+1)*1;omega⟩
theorem IZ(a b:Curve)(c:a6 a)(k:a6 b):∃x,x=bY a b/\q0e 100 [a.av,b.av] (KA x):=by
 have P:=GO a b c k;have hcl:∀x:Except Int Spl,∀q:List Nat,gu q (KA x)=true:=λx q=>by cases x<;>rfl
 by_cases g:bj a b<=120
 .rw[if_pos g]at P;have F:=Nl a b c k g;rcases f:bE a b with e|z
  .rw[f]at F;obtain rfl:=mn f;refine dp func100 ntmps100 results100 ?_ (hco:=λx=>⟨hcl x _,by simp,rfl⟩);repeat'(first|refine' aj|fail)
   exact ag ⟨.error 3,rfl,by unfold bY;rw[f]⟩
  .rw[f]at F;have p:=(dL c k f).1;have N:=hor_cf a b z c k p.wf g;have hh:=Em c k p g;obtain⟨H,E⟩:∃H,H=eH a b z:=⟨_,rfl⟩;rw[<-E]at N hh;have I:=u7 a b z;rw[<-E]at I;have G:∀t,t<H+bj a b->(J1 a b z).getD t 0=(s7 a b z t:Int):=λt ht=>Ac Z;have L:∀e:Except Int Spl,e=.ok ⟨z,H,J1 a b z⟩->e=bY a b:=λe h=>by unfold bY;rw[f,h,E]
   obtain⟨l,el⟩:∃l,l=J1 a b z:=⟨_,rfl⟩;rw[<-el]at I G L;have hd:=GR c k f;have t1:=eQ a c.wf l.length Z;have t2:=eQ b k.wf l.length Z;have W:((H:Nat):Int)+(bj a b:Nat)=(l.length:Nat):=Z;have K:l.length<=2000:=Z;refine dp func100 ntmps100 results100 ?_ (hco:=λx=>⟨hcl x _,by simp,rfl⟩);repeat'(first|(refine fg ?_;conv=>whnf)|(refine aa (λhb=>?_) (λhb=>?_)<;>conv=>whnf)|(refine aq (λhb=>?_) (λhb=>?_)<;>conv=>whnf)|(refine Side.mk ?_ ?_;rotate_left;conv=>whnf)|(refine SubS.mk ?_ ?_;rotate_left;conv=>whnf)|(refine VCells.mk ⟨_,rfl,?_⟩;conv=>whnf)|(refine DrawOk.mk ⟨rfl,rfl⟩ ?_;conv=>whnf)|(refine am (P) ?_;conv=>whnf)|(refine am (F) ?_;conv=>whnf)|(refine am (N) ?_;conv=>whnf)|(rw[W];conv=>whnf)|(refine am (t1) ?_;conv=>whnf)|(refine am (t2) ?_;conv=>whnf)|(refine aA (λhb=>?_) (λhb=>?_)<;>conv=>whnf))
   all_goals try exact bs
   refine ae (ι:={j:Nat//j<=l.length}) [4,6,8,9,11,12] [4,6,8] [] ⟨0,χ _⟩ (λ⟨j,_⟩=>l.length-j) (λ⟨j,_⟩=>[(13,.osl 52 l.length),(54,J l.length),(55,J j)]) (λ⟨j,_⟩=>[(52,some (.arr l.length 1 (dH (λi=>l.getD i 0) j) 3))]) ?_ ?_
   .refine⟨⟨rfl,rfl⟩,?_,?_⟩;all_goals((refine' subP)<;>first|exact fl Z λi u=>rfl|exact Ξ (congrArg (AV.osl 52) Z)|exact bt)
   .rintro⟨j,hj⟩;conv=>whnf
    by_cases A:j=l.length
    .subst A;repeat'(first|(refine M Z λhb=>?_;conv=>whnf)|(refine az [4,6,8,9,13,54,55] [4,6,8] [] [] [(52,some (.arr l.length 1 (λi=>[J (l.getD i 0)]) 3))] ⟨⟨rfl,rfl⟩,?_,?_⟩ ?_;(solve|((refine' subP)<;>first|exact fl rfl λi u=>cn Z|exact bt));(solve|((refine' subP)<;>first|exact fl rfl λi u=>cn Z|exact bt));(conv=>whnf);(refine a7 52 rfl rfl (λ_ _=>rfl) ?_ ?_ ?_;(solve|try refine' frzZ);(solve|try refine' frzZ));(conv=>whnf))|refine' aj|fail)
     all_goals try exact bs
     exact ag ⟨.ok ⟨z,H,l⟩,rfl,L _ rfl⟩
    .have pz := cu z p.wf j Z;obtain⟨q1,Q,w⟩:=y5 c k f (t:=j) Z;obtain⟨S,X⟩:∃S,S=s7 a b z j:=⟨_,rfl⟩;have o:=G j Z;rw[<-X]at q1 Q w o;have o:=o.symm;unfold H9 at Q w;rw[<-E]at Q w;repeat'(first|(refine aa (λhb=>?_) (λhb=>absurd hb Z);conv=>whnf)|refine' aj|fail)
     all_goals try exact bs
     refine ae (ι:={s:Nat//s<=S}) [4,6,8,9,11,12,13,14,15,54,55] [4,6,8,52] [] ⟨0,χ _⟩ (λ⟨s,_⟩=>S-s) (λ⟨s,_⟩=>[(16,J s)]) (λ_=>[]) ?_ ?_
     .exact⟨⟨rfl,rfl⟩,bt,bt⟩
     .rintro⟨s,hs⟩;conv=>whnf
      have y:((j:Int)-(s:Int)).toNat=j-s:=Z;have b1:=c.bds (t:=s) Z;have O:=k.bds (t:=j-s) Z;rw[<-y]at O;have pl:=xB (a.fn s) (b.fn ((j:Int)-(s:Int)).toNat) Z Z;obtain⟨R,v,pr⟩:=rep_ex a b z c k p.wf g hd s j Z Z;have d:(s:Int)<=j:=Z;by_cases D:s=S
      .subst D;have m:br (a.fn s) (b.fn ((j:Int)-(s:Int)).toNat)=z.at j:=by rw[y];exact Q.1
       by_cases C:(j:Int)<(H:Nat)
       .skip;repeat'(first|(refine' aO [] ⟨j+1,Z⟩<;>first|exact fl rfl λi u=>aU o|exact bt)|(refine U m λhb=>?_;conv=>whnf)|(refine U d λhb=>?_;conv=>whnf)|(refine U C λhb=>?_;conv=>whnf)|refine' aj|fail)
        all_goals try exact bs
       .by_cases r:z.at j=4611686018427387904
        .skip;repeat'(first|(refine' aO [] ⟨j+1,Z⟩<;>first|exact fl rfl λi u=>aU o|exact bt)|(refine U m λhb=>?_;conv=>whnf)|(refine U d λhb=>?_;conv=>whnf)|(refine U r λhb=>?_;conv=>whnf)|(refine M C λhb=>?_;conv=>whnf)|refine' aj|fail)
         all_goals try exact bs
        .obtain rfl:R = true:=v.2 (by
          rcases Q.2 with q|q|q
          .exact absurd q Z
          .exact absurd q r
          .exact q)
         repeat'(first|(refine' aO [] ⟨j+1,Z⟩<;>first|exact fl rfl λi u=>aU o|exact bt)|(refine U m λhb=>?_;conv=>whnf)|(refine U d λhb=>?_;conv=>whnf)|(refine M r λhb=>?_;conv=>whnf)|(refine M C λhb=>?_;conv=>whnf)|refine' aj|fail)
         all_goals try exact bs
      .have B:=w s Z;by_cases m:br (a.fn s) (b.fn ((j:Int)-(s:Int)).toNat)=z.at j
       .have n:br (a.fn s) (b.fn (j-s))=z.fn j:=by rw[<-y];exact m
        have C:¬(j:Int)<(H:Nat):=λh=>B ⟨n,.inl Z⟩;have r:¬z.at j=4611686018427387904:=λh=>B ⟨n,.inr (.inl h)⟩;have V:R=false:=by
         rcases R with _|_
         .rfl
         .exact absurd ⟨n,.inr (.inr (v.1 rfl))⟩ B
        subst V;repeat'(first|(exact aI [] ⟨s+1,Z⟩)|(refine U d λhb=>?_;conv=>whnf)|(refine U m λhb=>?_;conv=>whnf)|(refine M r λhb=>?_;conv=>whnf)|(refine M C λhb=>?_;conv=>whnf)|refine' aj|fail)
        all_goals try exact bs
       .skip;repeat'(first|(exact aI [] ⟨s+1,Z⟩)|(refine U d λhb=>?_;conv=>whnf)|(refine M m λhb=>?_;conv=>whnf)|refine' aj|fail)
        all_goals try exact bs
 .rw[if_neg g]at P;have f:bE a b=.error 3:=mj λz p=>absurd (mi c k p) g;refine dp func100 ntmps100 results100 ?_ (hco:=λx=>⟨hcl x _,by simp,rfl⟩);repeat'(first|refine' aj|fail)
  exact ag ⟨.error 3,rfl,by unfold bY;rw[f]⟩
theorem GS(a b:Curve)(h:a6 a)(k:a6 b):q0e 100 [a.av,b.av] (KA (bY a b)):=by
 obtain⟨_,rfl,p⟩:=IZ a b h k;exact p
end Go.Nc