/- Parts. -/
import Derived.Test.YtbdkgpcdkalfdaaGreatNdR31X
namespace Go.Nc
open Go.Proofs.Tryz
open Go.Proofs
set_option maxHeartbeats 8000000
def RowP(n:Net)(d:Xa)(i:Nat):Prop:=((d.getD i []).length:Int)=(n.lines.getD i default).classes/\∀c,c<(d.getD i []).length-> -1<=(d.getD i []).getD c 0/\(d.getD i []).getD c 0<=400
theorem m9{n:Net}{d:Xa}(b:d.length=n.lines.length)(h:∀i,i<d.length->RowP n d i):ShapeOk n d :=
 ⟨b,λi a=>(h i Z).1,λi c a H=>(h i Z).2 c H⟩
theorem Fu(n:Net)(d:Xa)(H:rq n):∃b:Bool,(b=true->pt n d)/\q0e 52 [n.av,aF d] (.bool b):=by
 have P:=ym H;have h:=H.1;have v:=h.len;have hcl:∀j:Nat,j<n.lines.length->1<=(n.lines.getD j default).classes/\(n.lines.getD j default).classes<=6:=λj u=>(h.line _ (by simp[u])).cls;by_cases o:(d.length:Int)=n.lines.length
 .refine dp func52 ntmps52 results52 ?_;repeat'(first|(refine ϕ o λhb=>?_;conv=>whnf)|refine' aj|fail)
  all_goals try exact ariB
  refine ae (ι:={j:Nat//j<=d.length/\∀i,i<j->RowP n d i}) [2,20,21] [2] [] ⟨0,χ _,ψ⟩ (λ⟨j,_⟩=>d.length-j) (λ⟨j,_⟩=>[(22,J j)]) (λ_=>[]) ?_ ?_
  .exact⟨⟨rfl,rfl⟩,bt,bt⟩
  .rintro⟨j,u,s⟩;conv=>whnf
   by_cases k:(j:Int)<d.length
   .have A := hcl j Z;obtain⟨D,q⟩:∃D,D=d.getD j []:=⟨_,rfl⟩;have E:d.getD (j:Int).toNat []=D:=by rw[q];rfl
    by_cases f:((d.getD (j:Int).toNat []).length:Int)=(n.lines.getD (j:Int).toNat default).classes
    .have l:(D.length:Int)=(n.lines.getD j default).classes:=by rw[<-E];exact f
     repeat'(first|(refine ϕ f λhb=>?_;conv=>whnf)|(refine U k λhb=>?_;conv=>whnf)|refine' aj|fail)
     all_goals try first|exact bs|(rw[E];unfold ah;omega)
     refine ae (ι:={c:Nat//c<=D.length/\∀e:Nat,e<c-> -1<=D.getD e 0/\D.getD e 0<=400}) [2,20,21,22] [2] [] ⟨0,χ _,ψ⟩ (λ⟨c,_⟩=>D.length-c) (λ⟨c,_⟩=>[(36,c4 D),(37,J D.length),(38,J c)]) (λ_=>[]) ?_ ?_
     .refine⟨⟨rfl,rfl⟩,?_,?_⟩;all_goals((refine' subP)<;>first|exact Γ (by rw[E])|exact Ξ (by rw[q];rfl)|exact bt)
     .rintro⟨c,B,t⟩;conv=>whnf
      by_cases a:(c:Int)<D.length
      .obtain⟨x,r⟩:∃x,x=D.getD c 0:=⟨_,rfl⟩;have m:D.getD (c:Int).toNat 0=x:=by rw[r];rfl
       by_cases z:-1<=x/\x<=400
       .skip;repeat'(first|(refine U a λhb=>?_;conv=>whnf)|(exact aI [] ⟨c+1,Z,λe C=>(ξ e c).elim (t e) λg=>by have p:e=c:=Z;subst p;rw[<-r];exact z⟩)|refine' aj|fail)
        all_goals try first|exact bs|(rw[m]at *;exfalso;omega)
       .skip;repeat'(first|(refine U a λhb=>?_;conv=>whnf)|refine' aj|fail)
        all_goals try first|exact bs|exact ag ⟨false,rfl,λg=>(by cases g)⟩|(rw[m]at *;exfalso;omega)
      .have w:c=D.length:=Z;subst w;repeat'(first|(refine M a λhb=>?_;conv=>whnf)|(exact aI [] ⟨j+1,Z,λi y=>(ξ i j).elim (s i) λg=>by have p:i=j:=Z;subst p;unfold RowP;rw[<-q];exact⟨l,t⟩⟩)|refine' aj|fail)
       all_goals try exact bs
    .skip;repeat'(first|(refine ϑ f λhb=>?_;conv=>whnf)|(refine U k λhb=>?_;conv=>whnf)|refine' aj|fail)
     all_goals try first|exact bs|exact ag ⟨false,rfl,λg=>(by cases g)⟩
   .skip;repeat'(first|(refine M k λhb=>?_;conv=>whnf)|refine' aj|fail)
    all_goals try exact bs
    exact ag ⟨true,rfl,λ_=>⟨H,m9 Z λi y=>s i Z⟩⟩
 .refine dp func52 ntmps52 results52 ?_;repeat'(first|(refine ϑ o λhb=>?_;conv=>whnf)|refine' aj|fail)
  all_goals try first|omega|exact ag ⟨false,rfl,λg=>(by cases g)⟩
  all_goals exact absurd rfl ‹_›
theorem BX(n:Net)(d:Xa)(H:rq n):∃b:Bool,(b=true->pt n d)/\q0e 55 [n.av,aF d] (.bool b):=by
 have P:=qt H;have h:=H.1;have t:=h.len;have hcl:∀j:Nat,j<n.lines.length->1<=(n.lines.getD j default).classes/\(n.lines.getD j default).classes<=6:=λj s=>(h.line _ (by simp[s])).cls;by_cases m:(d.length:Int)=n.lines.length
 .refine dp func55 ntmps55 results55 ?_;repeat'(first|(refine ϕ m λhb=>?_;conv=>whnf)|refine' aj|fail)
  all_goals try exact ariB
  refine ae (ι:={j:Nat//j<=d.length/\∀i,i<j->RowP n d i}) [1,2] [2] [] ⟨0,χ _,ψ⟩ (λ⟨j,_⟩=>d.length-j) (λ⟨j,_⟩=>[(5,J j)]) (λ_=>[]) ?_ ?_
  .exact⟨⟨rfl,rfl⟩,bt,bt⟩
  .rintro⟨j,s,q⟩;conv=>whnf
   by_cases k:(j:Int)<d.length
   .have z := hcl j Z;have y:(d.getD (j:Int).toNat []).length=(d.getD j []).length:=rfl;by_cases f:((d.getD (j:Int).toNat []).length:Int)=(n.lines.getD (j:Int).toNat default).classes
    .have l:((d.getD j []).length:Int)=(n.lines.getD j default).classes:=f;repeat'(first|(refine ϕ f λhb=>?_;conv=>whnf)|(refine U k λhb=>?_;conv=>whnf)|refine' aj|fail)
     all_goals try exact bs
     refine ae (ι:={c:Nat//c<=(d.getD j []).length/\∀e:Nat,e<c-> -1<=(d.getD j []).getD e 0/\(d.getD j []).getD e 0<=400}) [1,2,5] [2] [] ⟨0,χ _,ψ⟩ (λ⟨c,_⟩=>(d.getD j []).length-c) (λ⟨c,_⟩=>[(6,J c)]) (λ_=>[]) ?_ ?_
     .exact⟨⟨rfl,rfl⟩,bt,bt⟩
     .rintro⟨c,A,r⟩;conv=>whnf
      by_cases a:(c:Int)<(d.getD (j:Int).toNat []).length
      .obtain⟨x,p⟩:∃x,x=(d.getD j []).getD c 0:=⟨_,rfl⟩;have E:(d.getD (j:Int).toNat []).getD (c:Int).toNat 0=x:=by rw[p];rfl
       by_cases w:-1<=x/\x<=400
       .skip;repeat'(first|(refine U a λhb=>?_;conv=>whnf)|(exact aI [] ⟨c+1,Z,λe u=>(ξ e c).elim (r e) λg=>by have o:e=c:=Z;subst o;rw[<-p];exact w⟩)|refine' aj|fail)
        all_goals try first|exact bs|(rw[E]at *;exfalso;omega)
       .skip;repeat'(first|(refine U a λhb=>?_;conv=>whnf)|refine' aj|fail)
        all_goals try first|exact bs|exact ag ⟨false,rfl,λg=>(by cases g)⟩|(rw[E]at *;exfalso;omega)
      .skip;repeat'(first|(refine M a λhb=>?_;conv=>whnf)|(exact aI [] ⟨j+1,Z,λi v=>(ξ i j).elim (q i) λg=>by have o:i=j:=Z;subst o;exact⟨l,λe u=>r e Z⟩⟩)|refine' aj|fail)
       all_goals try exact bs
    .skip;repeat'(first|(refine ϑ f λhb=>?_;conv=>whnf)|(refine U k λhb=>?_;conv=>whnf)|refine' aj|fail)
     all_goals try first|exact bs|exact ag ⟨false,rfl,λg=>(by cases g)⟩
   .skip;repeat'(first|(refine M k λhb=>?_;conv=>whnf)|refine' aj|fail)
    all_goals try exact bs
    exact ag ⟨true,rfl,λ_=>⟨H,m9 Z λi v=>q i Z⟩⟩
 .refine dp func55 ntmps55 results55 ?_;repeat'(first|(refine ϑ m λhb=>?_;conv=>whnf)|refine' aj|fail)
  all_goals try first|omega|exact ag ⟨false,rfl,λg=>(by cases g)⟩
  all_goals exact absurd rfl ‹_›
theorem Fv{n:Net}{d:Xa}(H:rq n)(h:¬pt n d):q0e 52 [n.av,aF d] (.bool false):=by
 obtain⟨b,hb,p⟩:=Fu n d H;cases b with
 |false=>exact p
 |true=>exact absurd (hb rfl) h
theorem BY{n:Net}{d:Xa}(H:rq n)(h:¬pt n d):q0e 55 [n.av,aF d] (.bool false):=by
 obtain⟨b,hb,p⟩:=BX n d H;cases b with
 |false=>exact p
 |true=>exact absurd (hb rfl) h
theorem HB(n:Net)(d:Xa)(H:rq n):q0e 69 [n.av,aF d] (.bool (f7 n d)):=by
 by_cases h:pt n d
 .exact kQ n d h
 rw[uC h];have p:=Fv H h;have q:q0e 128 [n.av,aF d] (.tup [.nils,.bool false]):=by
  refine' db func128 ntmps128 results128
  all_goals exact Θ
 refine' db func69 ntmps69 results69
 all_goals exact Θ
theorem Fw(n:Net)(d:Xa)(H:rq n):q0e 31 [n.av,aF d] (.bool (f7 n d)):=by
 by_cases h:pt n d
 .exact iA n d h
 rw[uC h];have p:=BY H h;have q:q0e 50 [n.av,aF d] (.tup [.nils,J 6]):=by
  refine' db func50 ntmps50 results50
  all_goals exact Θ
 refine' db func31 ntmps31 results31
 all_goals exact Θ
structure Ex31(n:Net)(y a:Xa)(u:List Bnd)(e:Int):Prop where
 len:u.length<=1000
 r1:q0e 32 [n.av,aF y] (.tup [aF a,J e])
 r2:q0e 36 [n.av,aF y] (.tup [aF a,J e])
 rs:q0e 38 [aF a,aF a] (.bool true)
 a1:q0e 30 [n.av,aF y] (.tup [slc 4 xb default u,J e])
 a2:q0e 37 [n.av,aF y] (.tup [slc 4 xb default u,J e])
 sb:∀i:Nat,i<u.length->q0e 39 [.agg (xb (u.getD i default)),.agg (xb (u.getD i default))] (.bool true)
 b:∀i k:Int,∃(z:Curve) (e:Int),q0e 40 [n.av,aF y,J i,J k] (.tup [z.av,J e])/\q0e 41 [n.av,aF y,J i,J k] (.tup [z.av,J e])/\q0e 19 [z.av,z.av] (.bool true)
 f:∀i:Int,∃(w:Bnd) (ps:List Spl) (e:Int),q0e 34 [n.av,aF y,J i] (.tup [.agg (xb w),slc 5 Spl.cells default ps,J e])/\q0e 42 [n.av,aF y,J i] (.tup [.agg (xb w),slc 5 Spl.cells default ps,J e])/\q0e 39 [.agg (xb w),.agg (xb w)] (.bool true)
theorem same0(c:Curve)(h:c.vals.length<=10000):q0e 19 [c.av,c.av] (.bool true):=by
 obtain⟨r,H,p⟩:=BT c c Z;rw[H.2 rfl]at p;exact p
theorem n9(e:Int):AvLe (.tup [.agg [.nils,J 0,J 0],J e]) (.tup [Curve.av ⟨[],0,0⟩,J e]):=AvLe.tup (.cons (AvLe.agg (.cons AvLe.nils (.cons Θ (.cons Θ .nil)))) (.cons Θ .nil))
theorem uN(e:Int):AvLe (.tup [.agg [.bool false,J 0,J 0,.nils],.nils,J e]) (.tup [.agg (xb nT),slc 5 Spl.cells default [],J e]):=AvLe.tup (.cons (AvLe.agg (.cons Θ (.cons Θ (.cons Θ (.cons AvLe.nils .nil))))) (.cons AvLe.nils (.cons Θ .nil)))
theorem JI(n:Net)(h:rq n)(y:Xa)(H:f7 n y=false):Ex31 n y [] [] 8:=by
 have P:=HB n y h;have b:=Fw n y h;rw[H]at P b;refine⟨χ _,?_,?_,?_,?_,?_,ψ,λi k=>⟨⟨[],0,0⟩,8,?_,?_,same0 _ (χ _)⟩,λi=>⟨nT,[],8,?_,?_,oE nT (χ _)⟩⟩
 .refine' db func32 ntmps32 results32
  all_goals exact AvLe.tup (.cons AvLe.nils (.cons Θ .nil))
 .refine' db func36 ntmps36 results36
  all_goals exact AvLe.tup (.cons AvLe.nils (.cons Θ .nil))
 .obtain⟨r,a,p⟩:=uB [] [] rfl (χ _) ψ;rw[a.2 rfl]at p;exact p
 .refine' db func30 ntmps30 results30
  all_goals exact AvLe.tup (.cons AvLe.nils (.cons Θ .nil))
 .refine' db func37 ntmps37 results37
  all_goals exact AvLe.tup (.cons AvLe.nils (.cons Θ .nil))
 .refine' db func40 ntmps40 results40
  all_goals exact n9 8
 .refine' db func41 ntmps41 results41
  all_goals exact n9 8
 .refine' db func34 ntmps34 results34
  all_goals exact uN 8
 .refine' db func42 ntmps42 results42
  all_goals exact uN 8
theorem HC{n:Net}{d:Xa}(h:NetOk n)(c:NamesOk n)(H:ShapeOk n d){i:Nat}(a:i<n.flows.length){k:Nat}(b:k<(n.flows.getD i default).route.length){z:Curve}(e:nm n d i k=.ok z):z.vals.length<=10000:=by
 exact(cY (kR h c H a b e).1.gd).1.len.2
theorem BZ(n:Net)(y:Xa)(d:f7 n y=true)(i k:Int):∃(z:Curve) (e:Int),q0e 40 [n.av,aF y,J i,J k] (.tup [z.av,J e])/\q0e 41 [n.av,aF y,J i,J k] (.tup [z.av,J e])/\z.vals.length<=10000:=by
 have a:=(cg.1 d).1;obtain⟨⟨h,c⟩,H⟩:=id a;have p:=kQ n y a;have P:=iA n y a;rw[d]at p P;have f:=h.flen;have r:0<=i->i<n.flows.length->(n.flows.getD i.toNat default).route.length<=4:=λG q=>(h.flow _ (by simp[(Z:i.toNat<n.flows.length)])).ne.2;by_cases b:0<=i/\i<n.flows.length/\0<=k/\k<(n.flows.getD i.toNat default).route.length
 .obtain⟨i,rfl⟩:∃m:Nat,i=m:=⟨i.toNat,Z⟩;obtain⟨k,rfl⟩:∃m:Nat,k=m:=⟨k.toNat,Z⟩;have b:0<=(i:Int)/\(i:Int)<n.flows.length/\0<=(k:Int)/\(k:Int)<(n.flows.getD i default).route.length:=b;have l:=qL n y h c H i Z k Z;have o:=n8 n y h c H i Z k Z;have j:=λz=>HC h c H (i:=i) Z (k:=k) Z (z:=z);have g:(k:Int)<(n.flows.getD (i:Int).toNat default).route.length:=b.2.2.2;rcases hbx:nm n y i k with e|z<;>rw[hbx]at l o
  .refine⟨⟨[],0,0⟩,e,?_,?_,χ _⟩
   .refine' db func40 ntmps40 results40
    all_goals first|exact n9 e|omega|(exfalso;omega)|exact ε
   .refine' db func41 ntmps41 results41
    all_goals first|exact n9 e|omega|(exfalso;omega)|exact ε
  .refine⟨z,0,?_,?_,j z hbx⟩
   .refine' db func40 ntmps40 results40
    all_goals first|exact Θ|omega|(exfalso;omega)|exact ε
   .refine' db func41 ntmps41 results41
    all_goals first|exact Θ|omega|(exfalso;omega)|exact ε
 .refine⟨⟨[],0,0⟩,2,?_,?_,χ _⟩
  .refine' db func40 ntmps40 results40
   all_goals first|exact n9 2|omega|(exfalso;omega)|exact ε
  .refine' db func41 ntmps41 results41
   all_goals first|exact n9 2|omega|(exfalso;omega)|exact ε
theorem HD(n:Net)(y:Xa)(a:f7 n y=true)(H:n.lines.length<=2)(D:Nat->Curve->Except Int eK)(f:∀i,i<n.flows.length->DelF (n.flows.getD i default).con (D i)/\DelX (n.flows.getD i default).con (D i))(i:Int):∃(w:Bnd) (ps:List Spl) (e:Int),q0e 34 [n.av,aF y,J i] (.tup [.agg (xb w),slc 5 Spl.cells default ps,J e])/\q0e 42 [n.av,aF y,J i] (.tup [.agg (xb w),slc 5 Spl.cells default ps,J e])/\w.choice.length<=1000:=by
 have b:=(cg.1 a).1;obtain⟨⟨h,s⟩,o⟩:=id b;have g:=h.flen;by_cases r:0<=i/\i<n.flows.length
 .obtain⟨i,rfl⟩:∃m:Nat,i=m:=⟨i.toNat,Z⟩;obtain⟨d,c⟩:=f i Z;refine⟨_,_,0,Fg n y a H D i Z d,A3 n y a H D i Z c,?_⟩;have j:=ms (h.flow (n.flows.getD i default) (by simp[(Z:i<n.flows.length)])) H;exact jB (P:=λl=>l.length<=1000) (χ _) λq hq=>by
   have:=iV hq;rw[this,List.length_nil];omega
 .have p:=kQ n y b;have k:=iA n y b;rw[a]at p k;refine⟨nT,[],2,?_,?_,χ _⟩
  .refine' db func34 ntmps34 results34
   all_goals first|exact uN 2|omega|(exfalso;omega)|exact ε
  .refine' db func42 ntmps42 results42
   all_goals first|exact uN 2|omega|(exfalso;omega)|exact ε
theorem JJ(n:Net)(h:NetOk n)(j:NamesOk n)(H:n.lines.length<=2)(y:Xa):∃a u e,Ex31 n y a u e:=by
 by_cases b:f7 n y=true
 .have o:=(cg.1 b).1;have m:=o.2;have s:=h.flen;have x:=i8 h j m;have c:=sU h x;obtain⟨D,g⟩:=HY n h;have F:=HD n y b H D g;obtain⟨_,rfl,A⟩:=tf n y b;obtain⟨_,rfl,C⟩:=all_e n y b H D λi d=>(g i d).1;obtain⟨_,rfl,E⟩:=MS n y b H D λi d=>(g i d).2;have G:=jA n y (fc n y) D n.flows.length;refine⟨fc n y,iU n y (fc n y) D n.flows.length,0,Z,yI n y b H,A,?_,C,E,λi d=>?_,λi k=>?_,λi=>?_⟩
  .obtain⟨r,t,p⟩:=uB (fc n y) (fc n y) rfl c.1 c.2;rw[t.2 rfl]at p;exact p
  .rw[show(iU n y (fc n y) D n.flows.length).getD i default=(eE n y (fc n y) D i).1 by unfold iU;simp[(Z:i<n.flows.length)]];refine oE _ ?_;have v:=ms (h.flow (n.flows.getD i default) (by simp[(Z:i<n.flows.length)])) H;exact jB (P:=λl=>l.length<=1000) (χ _) λq hq=>by
    have:=iV hq;rw[this,List.length_nil];omega
  .obtain⟨z,e,b1,B,f⟩:=BZ n y b i k;exact⟨z,e,b1,B,same0 z f⟩
  .obtain⟨w,ps,e,b1,B,f⟩:=F i;exact⟨w,ps,e,b1,B,oE w f⟩
 .exact⟨[],[],8,JI n ⟨h,j⟩ y (by simpa using b)⟩
theorem wZ(t:List Int)(o:Xa)(F G:Int):∃b:Bool,b=true/\q0e 9 [c4 t,aF o,J F,J G] (.bool b):=by
 have K:=M3 t;have O:=Rd.net_ok K 2 3;have c:=M4 (Rd.new t) 2 3 Z Z Z Z;obtain⟨v,f⟩:=D0 (Rd.new t) 2 3 Z Z Z;obtain⟨n,s,R⟩:∃n s,(Rd.new t).net 2 3=(n,s):=⟨_,_,rfl⟩;have C:=FF _ K 2 3 Z Z Z Z;rw[R]at C c O v f;dsimp only at C c O v f;have f:n.lines.length<=2:=f;have hfl:=c.flen;have D:=x6 s O n Z (λl hl=>by have:=(c.line l hl).cls;omega);have B:(s.delays n.lines).2.ok:=Rd.rows_ok n.lines O n.lines.length;obtain⟨Q,S,V⟩:∃d S,s.delays n.lines=(d,S):=⟨_,_,rfl⟩;rw[V]at D B;dsimp only at D B;obtain⟨_,rfl,E⟩:=sane31;obtain⟨x,hx,P⟩:=wK n c v 20 Z Z;have P:q0e 14 [n.av,J 20] (DL x):=P;obtain⟨d,z0,k0,e0,P,hz⟩:∃d z k e,q0e 14 [n.av,J 20] (.tup [z,J k,J e])/\((e=0/\z=aF d)\/(e=5/\d=Q)):=by
  rcases x with _|⟨d,k⟩
  .exact⟨_,_,_,_,P,.inr ⟨rfl,rfl⟩⟩
  .exact⟨_,_,_,_,P,.inl ⟨rfl,rfl⟩⟩
 clear hx;have hA:=JJ n c v f;rcases hz with⟨rfl,rfl⟩|⟨rfl,rfl⟩;all_goals
  refine dp func9 ntmps9 results9 ?_;repeat'(first|refine' aj|(refine jL (F6 t) rfl ?_;conv=>whnf)|refine bT C ?_|refine bT D ?_)
  all_goals try first|exact bs|exact ag ⟨true,rfl,rfl⟩|(exfalso;omega)
  refine ae (ι:={p:Nat×Rd//p.1<=2/\p.2.ok}) [2,3,9,10,65] [10] [] ⟨(0,S),χ _,B⟩ (λ⟨(j,_),_⟩=>2-j) (λ⟨(j,_),_⟩=>[(66,J j)]) (λ⟨(_,r),_⟩=>[(900,some r.ob)]) ?_ ?_
  .exact⟨⟨rfl,rfl⟩,bt,bt⟩
  .rintro⟨⟨j, r⟩,hj,I⟩;dsimp only at hj I;rcases ξ j 2 with h3|h3
   .obtain⟨jn, W⟩:∃m:Nat,m=j+1:=⟨_,rfl⟩;obtain⟨y,hy⟩:∃y,(j=0/\y=d)\/(j=1/\y=o):=by
     rcases(Z:j=0\/j=1)with h|h
     .exact⟨_,.inl ⟨h,rfl⟩⟩
     .exact⟨_,.inr ⟨h,rfl⟩⟩
    obtain⟨a,u,e,H⟩:=hA y;have hul:=H.len;have q1:=H.r1;have q2:=H.r2;have q3:=H.rs;have q4:=H.a1;have q5:=H.a2;have q6:=H.sb;have q7:=H.b;have q8:=H.f;clear H;rcases hy with⟨rfl,rfl⟩|⟨rfl,rfl⟩;all_goals
     conv=>whnf
     repeat'(first|refine' aj|fail)
     all_goals try exact bs
     refine ae (ι:={m:Nat//m<=u.length}) [2,3,9,10,16,21,23,65,66,115] [10,900] [] ⟨0,χ _⟩ (λ⟨m,_⟩=>u.length-m) (λ⟨m,_⟩=>[(116,J m)]) (λ_=>[]) ?_ ?_
     .exact⟨⟨rfl,rfl⟩,bt,bt⟩
     .rintro⟨m,hm⟩;conv=>whnf
      by_cases g:(m:Int)<u.length
      .have q9:=q6 m Z;repeat'(first|(refine U g λhb=>?_;conv=>whnf)|(exact aI [] ⟨m+1,Z⟩)|refine' aj|fail)
       all_goals try exact bs
      .obtain⟨x1,r3,_,_,w3,L⟩:=n_at r I 3 Z Z;obtain⟨x2,r4,_,_,w4,N⟩:=n_at r3 w3 3 Z Z;repeat'(first|(refine M g λhb=>?_;conv=>whnf)|refine' aj|refine bT L ?_|refine bT N ?_)
       all_goals try exact bs
       refine ae (ι:={q:Nat//q<=2}) [2,3,9,10,16,65,66,138] [10,900] [] ⟨0,χ _⟩ (λ⟨q,_⟩=>2-q) (λ⟨q,_⟩=>[(139,J q)]) (λ_=>[]) ?_ ?_
       .exact⟨⟨rfl,rfl⟩,bt,bt⟩
       .rintro⟨q,hq⟩;rcases ξ q 2 with h5|h5
        .obtain⟨qn,X⟩:∃m:Nat,m=q+1:=⟨_,rfl⟩;obtain⟨i,k,A⟩:∃i k:Int,(q=0/\i=F/\k=G)\/(q=1/\i=x1/\k=x2):=by
          rcases(Z:q=0\/q=1)with h|h
          .exact⟨_,_,.inl ⟨h,rfl,rfl⟩⟩
          .exact⟨_,_,.inr ⟨h,rfl,rfl⟩⟩
         obtain⟨z,ez,b1,b2,b3⟩:=q7 i k;obtain⟨w,ps,ew,f1,f2,f3⟩:=q8 i;rcases A with⟨rfl,rfl,rfl⟩|⟨rfl,rfl,rfl⟩;all_goals
          conv=>whnf
          repeat'(first|(exact aI [] ⟨qn,Z⟩)|refine' aj|refine ab b1 ?_)
          all_goals try exact bs
        .obtain rfl:q=2:=Z;conv=>whnf
         repeat'(first|(exact aI [] ⟨(jn,r4),κ,w4⟩)|refine' aj|fail)
         all_goals try exact bs
   .obtain rfl:j=2:=Z;conv=>whnf
    repeat'(first|refine' aj|fail)
    all_goals try exact bs
    exact ag ⟨true,rfl,rfl⟩
end Go.Nc