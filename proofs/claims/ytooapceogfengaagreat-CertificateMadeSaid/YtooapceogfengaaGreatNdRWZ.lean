/- Parts. -/
import Derived.Test.YtooapceogfengaaGreatNdRWX
namespace Go.Nc
open Go.Proofs.Tryz
open Go.Proofs
set_option maxHeartbeats 8000000
theorem Il{n:Net}(h:NetOk n):∀j:Nat,j<n.lines.length->1<=(n.lines.getD j default).classes/\(n.lines.getD j default).classes<=6:=λj H=>(h.line _ (by simp[H])).cls
theorem LM{n:Net}(h:NetOk n):∀j:Nat,j<n.flows.length->(n.flows.getD j default).route.length<=1000:=λj H=>by have:=(h.flow _ (show n.flows.getD j default∈n.flows by simp[H])).ne;omega
theorem Fu(n:Net)(d:Xa)(h:NetOk n)(o:DimOk n d):∃b:Bool,(b=true↔yb n λi c=>0<=kx d i c)/\bx 31 [n.av,aB d] (.bool b):=by
 have q:=h.len;have v:=h.flen;have u:=o.len;have hcl:=Il h;have p:=λi c=>c6 n i c Z (LM h);refine dp func31 ntmps31 results31 ?_;repeat'(first|refine' ag|fail)
 all_goals try exact bs
 refine ae (ι:={i:Nat//i<=n.lines.length/\cH n (λi c=>0<=kx d i c) i 0}) [1,2] [2] [] ⟨0,π _,cH.zero n _⟩ (λ⟨i,_⟩=>n.lines.length-i) (λ⟨i,_⟩=>[(5,J i)]) (λ_=>[]) ?_ ?_
 .exact⟨⟨rfl,rfl⟩,bt,bt⟩
 .rintro⟨i,A,m⟩;conv=>whnf
  by_cases g:(i:Int)<n.lines.length
  .have s := hcl i Z;have t:=o.row i Z;obtain⟨C,E⟩:∃C,C=(n.lines.getD i default).classes:=⟨_,rfl⟩;have r:(n.lines.getD (i:Int).toNat default).classes=C:=by rw[E];rfl
   rw[<-E]at s t;repeat'(first|(refine U g λhb=>?_;conv=>whnf)|refine' ag|fail)
   all_goals try exact bs
   refine ae (ι:={c:Nat//(c:Int)<=C/\cH n (λi c=>0<=kx d i c) i c}) [1,2,5] [2] [] ⟨0,Z,m⟩ (λ⟨c,_⟩=>C.toNat-c) (λ⟨c,_⟩=>[(6,J c)]) (λ_=>[]) ?_ ?_
   .exact⟨⟨rfl,rfl⟩,bt,bt⟩
   .rintro⟨c,z,k⟩;conv=>whnf
    by_cases a:(c:Int)<(n.lines.getD (i:Int).toNat default).classes
    .have x:(d.getD (i:Int).toNat []).getD (c:Int).toNat 0=kx d i c:=rfl;have y:(d.getD (i:Int).toNat []).length=(d.getD i []).length:=rfl;by_cases H:(d.getD (i:Int).toNat []).getD (c:Int).toNat 0<0
     .by_cases j:a6 n i c=[]
      .have f:¬0<((a6 n i c).length:Int):=by rw[j];decide
       repeat'(first|(refine M f λhb=>?_;conv=>whnf)|(refine U H λhb=>?_;conv=>whnf)|(refine U a λhb=>?_;conv=>whnf)|(exact aH [] ⟨c+1,Z,k.skip j⟩)|refine' ag|(refine ab ((p i c)) ?_))
       all_goals try exact bs
      .have f:0<((a6 n i c).length:Int):=by have:=List.length_pos_iff.2 j;omega
       repeat'(first|(refine U f λhb=>?_;conv=>whnf)|(refine U H λhb=>?_;conv=>whnf)|(refine U a λhb=>?_;conv=>whnf)|refine' ag|(refine ab ((p i c)) ?_))
       all_goals try exact bs
       exact ac ⟨false,rfl,λe=>(by cases e),λw=>by have:=w i c Z Z j;dsimp only at this;omega⟩
     .have l:cH n (λi c=>0<=kx d i c) i (c+1):=k.step (Z:0<=kx d i c);repeat'(first|(refine M H λhb=>?_;conv=>whnf)|(refine U a λhb=>?_;conv=>whnf)|(exact aH [] ⟨c+1,Z,l⟩)|refine' ag|(refine ab ((p i c)) ?_))
      all_goals try exact bs
    .skip;repeat'(first|(refine M a λhb=>?_;conv=>whnf)|(exact aH [] ⟨i+1,Z,k.row (by rw[<-E];omega)⟩)|refine' ag|fail)
     all_goals try exact bs
  .skip;repeat'(first|(refine M g λhb=>?_;conv=>whnf)|refine' ag|fail)
   all_goals try exact bs
   exact ac ⟨true,rfl,λ_=>m.all Z,λ_=>rfl⟩
theorem Hs(n:Net)(d:Xa)(h:NetOk n)(L:NamesOk n)(j:ShapeOk n d):∃b:Bool,(b=true↔u9 n d (iH n d))/\bx 15 [n.av,aB d] (.bool b):=by
 have w:=h.len;have K:=h.flen;have F:=j.len;have hcl:=Il h;have t:=λi c=>c6 n i c Z (LM h);have o:=(lm h j).dim;obtain⟨_,rfl,P⟩:=GE n d h L j;obtain⟨b1,u,X⟩:=Fu n d h j.dim;obtain⟨B,q,N⟩:=Fu n (iH n d) h o;obtain⟨e,y⟩:∃e,e=iH n d:=⟨_,rfl⟩;rw[<-y]at o P q N⊢;have P:bx 30 [n.av,aB d] (.tup [aB e,J 0]):=P;have I:=o.len;rcases b1 with _|_
 .refine dp func15 ntmps15 results15 ?_;repeat'(first|refine' ag|fail)
  all_goals try exact bs
  all_goals exact ac ⟨false,rfl,λe=>(by cases e),λg=>u.2 g.1⟩
 rcases B with _|_
 .refine dp func15 ntmps15 results15 ?_;repeat'(first|refine' ag|fail)
  all_goals try exact bs
  all_goals exact ac ⟨false,rfl,λe=>(by cases e),λg=>q.2 λi c a b m=>(g.2 i c a b m).1⟩
 have O:=u.1 rfl;have Q:=q.1 rfl;refine dp func15 ntmps15 results15 ?_;repeat'(first|refine' ag|fail)
 all_goals try exact bs
 refine ae (ι:={i:Nat//i<=n.lines.length/\cH n (λi c=>kx e i c<=kx d i c) i 0}) [1,2,5] [2] [] ⟨0,π _,cH.zero n _⟩ (λ⟨i,_⟩=>n.lines.length-i) (λ⟨i,_⟩=>[(7,J i)]) (λ_=>[]) ?_ ?_
 .exact⟨⟨rfl,rfl⟩,bt,bt⟩
 .rintro⟨i,W,v⟩;conv=>whnf
  by_cases k:(i:Int)<n.lines.length
  .have G := hcl i Z;have A:=j.row i Z;have D:=o.row i Z;obtain⟨C,E⟩:∃C,C=(n.lines.getD i default).classes:=⟨_,rfl⟩;have x:(n.lines.getD (i:Int).toNat default).classes=C:=by rw[E];rfl
   rw[<-E]at G A D;repeat'(first|(refine U k λhb=>?_;conv=>whnf)|refine' ag|fail)
   all_goals try exact bs
   refine ae (ι:={c:Nat//(c:Int)<=C/\cH n (λi c=>kx e i c<=kx d i c) i c}) [1,2,5,7] [2] [] ⟨0,Z,v⟩ (λ⟨c,_⟩=>C.toNat-c) (λ⟨c,_⟩=>[(8,J c)]) (λ_=>[]) ?_ ?_
   .exact⟨⟨rfl,rfl⟩,bt,bt⟩
   .rintro⟨c,g,r⟩;conv=>whnf
    by_cases H:(c:Int)<(n.lines.getD (i:Int).toNat default).classes
    .have R:(d.getD (i:Int).toNat []).getD (c:Int).toNat 0=kx d i c:=rfl;have S:(e.getD (i:Int).toNat []).getD (c:Int).toNat 0=kx e i c:=rfl;have V:(d.getD (i:Int).toNat []).length=(d.getD i []).length:=rfl;have z:(e.getD (i:Int).toNat []).length=(e.getD i []).length:=rfl;by_cases p:a6 n i c=[]
     .have f:¬0<((a6 n i c).length:Int):=by rw[p];decide
      repeat'(first|(refine M f λhb=>?_;conv=>whnf)|(refine U H λhb=>?_;conv=>whnf)|(exact aH [] ⟨c+1,Z,r.skip p⟩)|refine' ag|(refine ab ((t i c)) ?_))
      all_goals try exact bs
     .have f:0<((a6 n i c).length:Int):=by have:=List.length_pos_iff.2 p;omega
      by_cases l:(d.getD (i:Int).toNat []).getD (c:Int).toNat 0<(e.getD (i:Int).toNat []).getD (c:Int).toNat 0
      .skip;repeat'(first|(refine U f λhb=>?_;conv=>whnf)|(refine U l λhb=>?_;conv=>whnf)|(refine U H λhb=>?_;conv=>whnf)|refine' ag|(refine ab ((t i c)) ?_))
       all_goals try exact bs
       exact ac ⟨false,rfl,λe=>(by cases e),λg=>by have:=(g.2 i c Z Z p).2;omega⟩
      .have s:cH n (λi c=>kx e i c<=kx d i c) i (c+1):=r.step (Z:kx e i c<=kx d i c);repeat'(first|(refine U f λhb=>?_;conv=>whnf)|(refine M l λhb=>?_;conv=>whnf)|(refine U H λhb=>?_;conv=>whnf)|(exact aH [] ⟨c+1,Z,s⟩)|refine' ag|(refine ab ((t i c)) ?_))
       all_goals try exact bs
    .skip;repeat'(first|(refine M H λhb=>?_;conv=>whnf)|(exact aH [] ⟨i+1,Z,r.row (by rw[<-E];omega)⟩)|refine' ag|fail)
     all_goals try exact bs
  .skip;repeat'(first|(refine M k λhb=>?_;conv=>whnf)|refine' ag|fail)
   all_goals try exact bs
   exact ac ⟨true,rfl,λ_=>⟨O,λi c a b m=>⟨Q i c a b m,v.all Z i c a b m⟩⟩,λ_=>rfl⟩
theorem Ht(a b:List Int)(l:a.length<=1000):∃r:Bool,(r=true↔a=b)/\bx 27 [c4 a,c4 b] (.bool r):=by
 by_cases c:(a.length:Int)=b.length
 .refine dp func27 ntmps27 results27 ?_;repeat'(first|(refine ϕ c λhb=>?_;conv=>whnf)|refine' ag|fail)
  all_goals try exact ez
  refine ae (ι:={i:Nat//i<=a.length/\∀k,k<i->a.getD k 0=b.getD k 0}) [0,1] [] [] ⟨0,Z,ν⟩ (λ⟨i,_⟩=>a.length-i) (λ⟨i,_⟩=>[(5,J i)]) (λ_=>[]) ?_ ?_
  .exact⟨⟨rfl,rfl⟩,bt,bt⟩
  .rintro⟨i,m,d⟩;conv=>whnf
   by_cases h:(i:Int)<a.length
   .by_cases H:a.getD (i:Int).toNat 0=b.getD (i:Int).toNat 0
    .skip;repeat'(first|(refine ϕ H λhb=>?_;conv=>whnf)|(refine U h λhb=>?_;conv=>whnf)|(exact aH [] ⟨i+1,Z,λk n=>(ζ k i).elim (d k) λj=>by have E:k=i:=Z;subst E;exact H⟩)|refine' ag|fail)
     all_goals try exact bs
    .skip;repeat'(first|(refine ϑ H λhb=>?_;conv=>whnf)|(refine U h λhb=>?_;conv=>whnf)|refine' ag|fail)
     all_goals try exact bs
     exact ac ⟨false,rfl,λe=>(by cases e),λe=>absurd (by rw[e]) H⟩
   .skip;repeat'(first|(refine M h λhb=>?_;conv=>whnf)|refine' ag|fail)
    all_goals try exact bs
    refine ac ⟨true,rfl,λ_=>List.ext_getElem Z λk f g=>?_,λ_=>rfl⟩;have:=d k Z;rw[ψ,β f,ψ,β g]at this;exact this
 .refine⟨false,⟨λe=>(by cases e),λe=>absurd (by rw[e]) c⟩,?_⟩;refine ee func27 ntmps27 results27 λ_ _ _=>?_;repeat'(first|(refine ϑ c λhb=>?_;conv=>whnf)|refine' aj|fail)
  all_goals exact Y
end Go.Nc