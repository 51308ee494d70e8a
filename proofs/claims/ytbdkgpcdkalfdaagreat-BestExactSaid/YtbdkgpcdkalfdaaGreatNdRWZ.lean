/- Parts. -/
import Derived.Test.YtbdkgpcdkalfdaaGreatNdRBC
namespace Go.Nc
open Go.Proofs.Tryz
open Go.Proofs
set_option maxHeartbeats 8000000
theorem Ex{n:Net}(h:NetOk n):∀j:Nat,j<n.lines.length->1<=(n.lines.getD j default).classes/\(n.lines.getD j default).classes<=6:=λj H=>(h.line _ (by simp[H])).cls
theorem LM{n:Net}(h:NetOk n):∀j:Nat,j<n.flows.length->(n.flows.getD j default).route.length<=1000:=λj H=>by have:=(h.flow _ (show n.flows.getD j default∈n.flows by simp[H])).ne;omega
theorem yA(n:Net)(d:Xa)(h:NetOk n)(o:DimOk n d):∃b:Bool,(b=true↔yb n λi c=>0<=kx d i c)/\q0e 51 [n.av,aF d] (.bool b):=by
 have q:=h.len;have v:=h.flen;have u:=o.len;have hcl:=Ex h;have p:=λi c=>c5 n i c Z (LM h);refine dp func51 ntmps51 results51 ?_;repeat'(first|refine' aj|fail)
 all_goals try exact bs
 refine ae (ι:={i:Nat//i<=n.lines.length/\cM n (λi c=>0<=kx d i c) i 0}) [1,2] [2] [] ⟨0,χ _,cM.zero n _⟩ (λ⟨i,_⟩=>n.lines.length-i) (λ⟨i,_⟩=>[(5,J i)]) (λ_=>[]) ?_ ?_
 .exact⟨⟨rfl,rfl⟩,bt,bt⟩
 .rintro⟨i,A,m⟩;conv=>whnf
  by_cases g:(i:Int)<n.lines.length
  .have s := hcl i Z;have t:=o.row i Z;obtain⟨C,E⟩:∃C,C=(n.lines.getD i default).classes:=⟨_,rfl⟩;have r:(n.lines.getD (i:Int).toNat default).classes=C:=by rw[E];rfl
   rw[<-E]at s t;repeat'(first|(refine U g λhb=>?_;conv=>whnf)|refine' aj|fail)
   all_goals try exact bs
   refine ae (ι:={c:Nat//(c:Int)<=C/\cM n (λi c=>0<=kx d i c) i c}) [1,2,5] [2] [] ⟨0,Z,m⟩ (λ⟨c,_⟩=>C.toNat-c) (λ⟨c,_⟩=>[(6,J c)]) (λ_=>[]) ?_ ?_
   .exact⟨⟨rfl,rfl⟩,bt,bt⟩
   .rintro⟨c,z,k⟩;conv=>whnf
    by_cases a:(c:Int)<(n.lines.getD (i:Int).toNat default).classes
    .have x:(d.getD (i:Int).toNat []).getD (c:Int).toNat 0=kx d i c:=rfl;have y:(d.getD (i:Int).toNat []).length=(d.getD i []).length:=rfl;by_cases H:(d.getD (i:Int).toNat []).getD (c:Int).toNat 0<0
     .by_cases j:a8 n i c=[]
      .have f:¬0<((a8 n i c).length:Int):=by rw[j];decide
       repeat'(first|(refine M f λhb=>?_;conv=>whnf)|(refine U H λhb=>?_;conv=>whnf)|(refine U a λhb=>?_;conv=>whnf)|(exact aI [] ⟨c+1,Z,k.skip j⟩)|refine' aj|(refine ab ((p i c)) ?_))
       all_goals try exact bs
      .have f:0<((a8 n i c).length:Int):=by have:=List.length_pos_iff.2 j;omega
       repeat'(first|(refine U f λhb=>?_;conv=>whnf)|(refine U H λhb=>?_;conv=>whnf)|(refine U a λhb=>?_;conv=>whnf)|refine' aj|(refine ab ((p i c)) ?_))
       all_goals try exact bs
       exact ag ⟨false,rfl,λe=>(by cases e),λw=>by have:=w i c Z Z j;dsimp only at this;omega⟩
     .have l:cM n (λi c=>0<=kx d i c) i (c+1):=k.step (Z:0<=kx d i c);repeat'(first|(refine M H λhb=>?_;conv=>whnf)|(refine U a λhb=>?_;conv=>whnf)|(exact aI [] ⟨c+1,Z,l⟩)|refine' aj|(refine ab ((p i c)) ?_))
      all_goals try exact bs
    .skip;repeat'(first|(refine M a λhb=>?_;conv=>whnf)|(exact aI [] ⟨i+1,Z,k.row (by rw[<-E];omega)⟩)|refine' aj|fail)
     all_goals try exact bs
  .skip;repeat'(first|(refine M g λhb=>?_;conv=>whnf)|refine' aj|fail)
   all_goals try exact bs
   exact ag ⟨true,rfl,λ_=>m.all Z,λ_=>rfl⟩
theorem GV(n:Net)(d:Xa)(h:NetOk n)(L:NamesOk n)(j:ShapeOk n d):∃b:Bool,(b=true↔yj n d (fO n d))/\q0e 31 [n.av,aF d] (.bool b):=by
 have w:=h.len;have K:=h.flen;have F:=j.len;have hcl:=Ex h;have t:=λi c=>c5 n i c Z (LM h);have o:=(kL h j).dim;obtain⟨_,rfl,P⟩:=zQ n d h L j;obtain⟨b1,u,X⟩:=yA n d h j.dim;obtain⟨B,q,N⟩:=yA n (fO n d) h o;obtain⟨e,y⟩:∃e,e=fO n d:=⟨_,rfl⟩;rw[<-y]at o P q N⊢;have P:q0e 50 [n.av,aF d] (.tup [aF e,J 0]):=P;have I:=o.len;rcases b1 with _|_
 .refine dp func31 ntmps31 results31 ?_;repeat'(first|refine' aj|fail)
  all_goals try exact bs
  all_goals exact ag ⟨false,rfl,λe=>(by cases e),λg=>u.2 g.1⟩
 rcases B with _|_
 .refine dp func31 ntmps31 results31 ?_;repeat'(first|refine' aj|fail)
  all_goals try exact bs
  all_goals exact ag ⟨false,rfl,λe=>(by cases e),λg=>q.2 λi c a b m=>(g.2 i c a b m).1⟩
 have O:=u.1 rfl;have Q:=q.1 rfl;refine dp func31 ntmps31 results31 ?_;repeat'(first|refine' aj|fail)
 all_goals try exact bs
 refine ae (ι:={i:Nat//i<=n.lines.length/\cM n (λi c=>kx e i c<=kx d i c) i 0}) [1,2,5] [2] [] ⟨0,χ _,cM.zero n _⟩ (λ⟨i,_⟩=>n.lines.length-i) (λ⟨i,_⟩=>[(7,J i)]) (λ_=>[]) ?_ ?_
 .exact⟨⟨rfl,rfl⟩,bt,bt⟩
 .rintro⟨i,W,v⟩;conv=>whnf
  by_cases k:(i:Int)<n.lines.length
  .have G := hcl i Z;have A:=j.row i Z;have D:=o.row i Z;obtain⟨C,E⟩:∃C,C=(n.lines.getD i default).classes:=⟨_,rfl⟩;have x:(n.lines.getD (i:Int).toNat default).classes=C:=by rw[E];rfl
   rw[<-E]at G A D;repeat'(first|(refine U k λhb=>?_;conv=>whnf)|refine' aj|fail)
   all_goals try exact bs
   refine ae (ι:={c:Nat//(c:Int)<=C/\cM n (λi c=>kx e i c<=kx d i c) i c}) [1,2,5,7] [2] [] ⟨0,Z,v⟩ (λ⟨c,_⟩=>C.toNat-c) (λ⟨c,_⟩=>[(8,J c)]) (λ_=>[]) ?_ ?_
   .exact⟨⟨rfl,rfl⟩,bt,bt⟩
   .rintro⟨c,g,r⟩;conv=>whnf
    by_cases H:(c:Int)<(n.lines.getD (i:Int).toNat default).classes
    .have R:(d.getD (i:Int).toNat []).getD (c:Int).toNat 0=kx d i c:=rfl;have S:(e.getD (i:Int).toNat []).getD (c:Int).toNat 0=kx e i c:=rfl;have V:(d.getD (i:Int).toNat []).length=(d.getD i []).length:=rfl;have z:(e.getD (i:Int).toNat []).length=(e.getD i []).length:=rfl;by_cases p:a8 n i c=[]
     .have f:¬0<((a8 n i c).length:Int):=by rw[p];decide
      repeat'(first|(refine M f λhb=>?_;conv=>whnf)|(refine U H λhb=>?_;conv=>whnf)|(exact aI [] ⟨c+1,Z,r.skip p⟩)|refine' aj|(refine ab ((t i c)) ?_))
      all_goals try exact bs
     .have f:0<((a8 n i c).length:Int):=by have:=List.length_pos_iff.2 p;omega
      by_cases l:(d.getD (i:Int).toNat []).getD (c:Int).toNat 0<(e.getD (i:Int).toNat []).getD (c:Int).toNat 0
      .skip;repeat'(first|(refine U f λhb=>?_;conv=>whnf)|(refine U l λhb=>?_;conv=>whnf)|(refine U H λhb=>?_;conv=>whnf)|refine' aj|(refine ab ((t i c)) ?_))
       all_goals try exact bs
       exact ag ⟨false,rfl,λe=>(by cases e),λg=>by have:=(g.2 i c Z Z p).2;omega⟩
      .have s:cM n (λi c=>kx e i c<=kx d i c) i (c+1):=r.step (Z:kx e i c<=kx d i c);repeat'(first|(refine U f λhb=>?_;conv=>whnf)|(refine M l λhb=>?_;conv=>whnf)|(refine U H λhb=>?_;conv=>whnf)|(exact aI [] ⟨c+1,Z,s⟩)|refine' aj|(refine ab ((t i c)) ?_))
       all_goals try exact bs
    .skip;repeat'(first|(refine M H λhb=>?_;conv=>whnf)|(exact aI [] ⟨i+1,Z,r.row (by rw[<-E];omega)⟩)|refine' aj|fail)
     all_goals try exact bs
  .skip;repeat'(first|(refine M k λhb=>?_;conv=>whnf)|refine' aj|fail)
   all_goals try exact bs
   exact ag ⟨true,rfl,λ_=>⟨O,λi c a b m=>⟨Q i c a b m,v.all Z i c a b m⟩⟩,λ_=>rfl⟩
theorem Ag(a b:List Int)(l:a.length<=1000):∃r:Bool,(r=true↔a=b)/\q0e 75 [c4 a,c4 b] (.bool r):=by
 by_cases c:(a.length:Int)=b.length
 .refine dp func75 ntmps75 results75 ?_;repeat'(first|(refine ϕ c λhb=>?_;conv=>whnf)|refine' aj|fail)
  all_goals try exact ariB
  refine ae (ι:={i:Nat//i<=a.length/\∀k,k<i->a.getD k 0=b.getD k 0}) [0,1] [] [] ⟨0,Z,ψ⟩ (λ⟨i,_⟩=>a.length-i) (λ⟨i,_⟩=>[(5,J i)]) (λ_=>[]) ?_ ?_
  .exact⟨⟨rfl,rfl⟩,bt,bt⟩
  .rintro⟨i,m,d⟩;conv=>whnf
   by_cases h:(i:Int)<a.length
   .by_cases H:a.getD (i:Int).toNat 0=b.getD (i:Int).toNat 0
    .skip;repeat'(first|(refine ϕ H λhb=>?_;conv=>whnf)|(refine U h λhb=>?_;conv=>whnf)|(exact aI [] ⟨i+1,Z,λk n=>(ξ k i).elim (d k) λj=>by have E:k=i:=Z;subst E;exact H⟩)|refine' aj|fail)
     all_goals try exact bs
    .skip;repeat'(first|(refine ϑ H λhb=>?_;conv=>whnf)|(refine U h λhb=>?_;conv=>whnf)|refine' aj|fail)
     all_goals try exact bs
     exact ag ⟨false,rfl,λe=>(by cases e),λe=>absurd (by rw[e]) H⟩
   .skip;repeat'(first|(refine M h λhb=>?_;conv=>whnf)|refine' aj|fail)
    all_goals try exact bs
    refine ag ⟨true,rfl,λ_=>List.ext_getElem Z λk f g=>?_,λ_=>rfl⟩;have:=d k Z;rw[γ,υ f,γ,υ g]at this;exact this
 .refine⟨false,⟨λe=>(by cases e),λe=>absurd (by rw[e]) c⟩,?_⟩;refine ee func75 ntmps75 results75 λ_ _ _=>?_;repeat'(first|(refine ϑ c λhb=>?_;conv=>whnf)|refine' ak|fail)
  all_goals exact Θ
theorem uB(a b:Xa)(g:a.length=b.length)(m:a.length<=1000)(j:∀i,i<a.length->(a.getD i []).length<=1000):∃r:Bool,(r=true↔a=b)/\q0e 38 [aF a,aF b] (.bool r):=by
 have c:(a.length:Int)=b.length:=Z;refine dp func38 ntmps38 results38 ?_;repeat'(first|(refine ϕ c λhb=>?_;conv=>whnf)|refine' aj|fail)
 all_goals try exact ariB
 refine ae (ι:={i:Nat//i<=a.length/\∀k,k<i->a.getD k []=b.getD k []}) [0,1] [] [] ⟨0,Z,ψ⟩ (λ⟨i,_⟩=>a.length-i) (λ⟨i,_⟩=>[(5,J i)]) (λ_=>[]) ?_ ?_
 .exact⟨⟨rfl,rfl⟩,bt,bt⟩
 .rintro⟨i,n,d⟩;conv=>whnf
  by_cases h:(i:Int)<a.length
  .obtain⟨r,H,p⟩:=Ag (a.getD (i:Int).toNat []) (b.getD (i:Int).toNat []) (j (i:Int).toNat Z);rcases r with _|_
   .skip;repeat'(first|(refine U h λhb=>?_;conv=>whnf)|refine' aj|fail)
    all_goals try exact bs
    exact ag ⟨false,rfl,λe=>(by cases e),λe=>by have:=H.2 (by rw[e]);cases this⟩
   .skip;repeat'(first|(refine U h λhb=>?_;conv=>whnf)|(exact aI [] ⟨i+1,Z,λk o=>(ξ k i).elim (d k) λl=>by have E:k=i:=Z;subst E;exact H.1 rfl⟩)|refine' aj|fail)
    all_goals try exact bs
  .skip;repeat'(first|(refine M h λhb=>?_;conv=>whnf)|refine' aj|fail)
   all_goals try exact bs
   refine ag ⟨true,rfl,λ_=>List.ext_getElem g λk H f=>?_,λ_=>rfl⟩;have:=d k Z;rw[γ,υ H,γ,υ f]at this;exact this
theorem j2.uniq{n:Net}{D:Nat->Xa}{r:Nat}{x y:Option (Xa×Nat)}(h:j2 n D r x)(H:j2 n D r y):x=y:=by
 rcases x with _|⟨d,k⟩
 .rcases y with _|⟨d,k⟩
  .rfl
  .exact H.more (π _) h
 .exact(h.more (π _) H).symm
theorem sU{n:Net}(h:NetOk n){d:Xa}(H:ShapeOk n d):d.length<=1000/\∀i,i<d.length->(d.getD i []).length<=1000:=by
 have f:=h.len;have a:=H.len;refine⟨Z,λi e=>?_⟩;have b:=H.row i Z;have c:=Ex h i Z;omega
theorem wK(n:Net)(h:NetOk n)(s:NamesOk n)(R:Nat)(A:1<=R)(B:R<=60):∃x,j2 n (bM n) R x/\q0e 14 [n.av,J R] (DL x):=by
 have I:=qt ⟨h,s⟩;obtain⟨_,_,D⟩:=B4 n h s;have t:=h.len;have C:AvLe (.isl n.lines.length 1 (λi=>cJ (ff n (λ_ _=>0) i))) (aF (bM n 0)):=kd (iz n _).symm λi y=>by
  show _=cJ ((rp n λ_ _=>0).getD i []);rw[gF n _ y]
 refine dp func14 ntmps14 results14 ?_ (hco:=λx=>⟨by rcases x with _|⟨d,k⟩<;>rfl,by simp,rfl⟩);repeat'(first|(refine az [1,2] [2] [] [(7,.osl 100 n.lines.length)] [(100,some (.arr n.lines.length 1 (λi=>cJ (ff n (λ_ _=>0) i)) 22))] ⟨⟨rfl,rfl⟩,bt,bt⟩ ?_;(conv=>whnf);(refine a7 100 rfl rfl (λ_ _=>rfl) ?_ ?_ ?_;(solve|try refine' frzZ);(solve|try refine' frzZ));(conv=>whnf))|refine' aj|(refine jL D rfl ?_;conv=>whnf))
 all_goals try exact ariB
 refine ae (ι:={i:Nat//1<=i/\i<=R+1/\nO n (bM n) (i-1)}) [1,2] [2] [] ⟨1,Z,Z,λj F G=>Z⟩ (λ⟨i,_⟩=>R+1-i) (λ⟨i,_⟩=>[(7,aF (bM n (i-1))),(8,J i)]) (λ_=>[]) ?_ ?_
 .refine⟨⟨rfl,rfl⟩,?_,?_⟩;all_goals((refine' subP)<;>first|exact C|exact bt)
 .rintro⟨i,f,z,l⟩;conv=>whnf
  have E:i-1+1=i:=Z;have u:=j3 h (i-1);have S:=j3 h i;by_cases a:(i:Int)<=R
  .obtain⟨_,rfl,P⟩:=zQ n (bM n (i-1)) h s u;have v:fO n (bM n (i-1))=bM n i:=by
    have:bM n (i-1+1)=fO n (bM n (i-1)):=rfl;rw[E]at this;exact this.symm
   rw[v]at P;have P:q0e 50 [n.av,aF (bM n (i-1))] (.tup [aF (bM n i),J 0]):=P;obtain⟨b,c,K⟩:=yA n (bM n i) h S.dim;have H:=sU h S;obtain⟨r,g,L⟩:=uB (bM n i) (bM n (i-1)) (by rw[S.len,u.len]) H.1 H.2;rcases b with _|_
   .skip;repeat'(first|(refine U a λhb=>?_;conv=>whnf)|refine' aj|fail)
    all_goals try exact bs
    exact ag ⟨none,rfl,.inl ⟨i,f,Z,l,λm=>by have:=c.2 m;cases this⟩⟩
   .have m:=c.1 rfl;rcases r with _|_
    .have q:bM n (i-1)≠bM n i:=λe=>by have:=g.2 e.symm;cases this
     have p:nO n (bM n) (i+1-1):=by
      have:=l.next (by rw[E];exact m) (by rw[E];exact q);rw[E]at this;exact this
     repeat'(first|(refine U a λhb=>?_;conv=>whnf)|(exact aI [] ⟨i+1,Z,Z,p⟩)|refine' aj|fail)
     all_goals try exact bs
    .have w:=g.1 rfl;repeat'(first|(refine U a λhb=>?_;conv=>whnf)|refine' aj|fail)
     all_goals try exact bs
     exact ag ⟨some (bM n i,i),rfl,f,Z,rfl,l,m,w.symm⟩
  .have o:i=R+1:=Z;subst o;repeat'(first|(refine M a λhb=>?_;conv=>whnf)|refine' aj|fail)
   all_goals try exact bs
   exact ag ⟨none,rfl,.inr l⟩
end Go.Nc