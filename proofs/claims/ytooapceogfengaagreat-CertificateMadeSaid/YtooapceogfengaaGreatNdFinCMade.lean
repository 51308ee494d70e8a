/- CertificateMade: the walk, and the law as called. -/
import Derived.Test.YtooapceogfengaaGreatNdR31X
import Derived.Below
namespace Go.Nc
open Go.Proofs.Tryz
open Go.Proofs
set_option maxHeartbeats 8000000
def yT(n:Net)(d:Xa)(i:Nat)(c:eh):Prop:=c.1.found=true/\
 ((c.1.meth=1/\c.1.choice=[]/\c.2=[]/\re n d i=some c.1.value)\/(c.1.meth=3/\c.1.choice=[]/\c.2=[]/\re n (fc n d) i=some c.1.value)\/
  (c.1.meth=2/\bx 50 [n.av,aB d,J i,c4 c.1.choice,iB 5 Spl.cells default c.2,J c.1.value] (.bool true)))
theorem HK{n:Net}{d:Xa}(a:fm n d=true){i:Nat}(k:i<n.flows.length)(c:eh)(h:yT n d i c):∃b:Bool,b=true/\bx 25 [n.av,aB d,J i,.agg (bX c)] (.bool b):=by
 obtain⟨⟨f,v,m,ch⟩,ps⟩:=c;obtain⟨e,h⟩:=h;dsimp only at e h;subst e;have H:=(bz.1 a).1;have g:=H.1.1.flen;have j:pt n (fc n d):=⟨H.1,fU H.1.1 H.1.2 H.2⟩;have P:=jP n d H;rw[a]at P;rcases h with⟨rfl,rfl,rfl,h⟩|⟨rfl,rfl,rfl,h⟩|⟨rfl,p⟩
 .have p:=uX n d i;rw[h]at p;have p:bx 14 [n.av,aB d,J i] (.tup [J v,.bool true]):=p;refine dp func25 ntmps25 results25 ?_;repeat'(first|refine' ag|fail)
  all_goals first|exact ac ⟨true,rfl,rfl⟩|omega|(exfalso;dsimp only at *;omega)|exact ac ⟨_,rfl,decide_eq_true (Int.le_refl _)⟩|exact absurd rfl ‹_›
 .have p:=uX n (fc n d) i;rw[h]at p;have p:bx 14 [n.av,aB (fc n d),J i] (.tup [J v,.bool true]):=p;obtain⟨_,rfl,l⟩:=tv n d a;refine dp func25 ntmps25 results25 ?_;repeat'(first|refine' ag|fail)
  all_goals first|exact ac ⟨true,rfl,rfl⟩|omega|(exfalso;dsimp only at *;omega)|exact ac ⟨_,rfl,decide_eq_true (Int.le_refl _)⟩|exact absurd rfl ‹_›
 .refine dp func25 ntmps25 results25 ?_;repeat'(first|refine' ag|fail)
  all_goals first|exact ac ⟨true,rfl,rfl⟩|omega|(exfalso;dsimp only at *;omega)|exact absurd rfl ‹_›
theorem HL{n:Net}{d:Xa}(H:fm n d=true){L:List eh}(f:L.length=n.flows.length)(e:∀i,i<n.flows.length->yT n d i (L.getD i default)):∃b:Bool,b=true/\bx 10 [n.av,xw d L] (.bool b):=by
 have a:=(bz.1 H).1;have c:=a.1.1.flen;have p:=jP n d a;rw[H]at p;unfold xw;refine dp func10 ntmps10 results10 ?_;repeat'(first|refine' ag|fail)
 all_goals try exact ez
 refine ae (ι:={j:Nat//j<=n.flows.length}) [2,3] [2,3] [] ⟨0,π _⟩ (λ⟨j,_⟩=>n.flows.length-j) (λ⟨j,_⟩=>[(5,J j)]) (λ_=>[]) ?_ ?_
 .exact⟨⟨rfl,rfl⟩,bt,bt⟩
 .rintro⟨j,g⟩;conv=>whnf
  by_cases h:(j:Int)<L.length
  .obtain⟨_,rfl,P⟩:=HK H (i:=j) Z _ (e j Z);repeat'(first|(refine U h λhb=>?_;conv=>whnf)|(exact aH [] ⟨j+1,Z⟩)|refine' ag|fail)
   all_goals try exact bs
  .skip;repeat'(first|(refine M h λhb=>?_;conv=>whnf)|refine' ag|fail)
   all_goals try exact bs
   exact ac ⟨true,rfl,rfl⟩
def kf(B:Nat->eh)(k:Nat):List eh:=(List.range k).map B
theorem mN(B:Nat->eh)(k:Nat):(kf B k).length=k:=by simp[kf]
theorem du(B:Nat->eh){k i:Nat}(h:i<k):(kf B k).getD i default=B i:=by simp[kf,h]
def s5(B:Nat->eh)(i:Nat)(v:Int)(q:Nat):eh:=bif Nat.beq q i then(⟨(B q).1.found,v,(B q).1.meth,(B q).1.choice⟩,(B q).2)else B q
theorem yU(B:Nat->eh)(i:Nat)(v:Int)(q:Nat):(s5 B i v q).1.found=(B q).1.found/\(s5 B i v q).1.meth=(B q).1.meth/\(s5 B i v q).1.choice=(B q).1.choice/\(s5 B i v q).2=(B q).2/\(s5 B i v q).1.value=if q=i then v else(B q).1.value:=by
 unfold s5;by_cases h:q=i
 .subst h;rw[Nat.beq_refl,if_pos rfl];exact⟨rfl,rfl,rfl,rfl,rfl⟩
 .rw[if_neg h,show Nat.beq q i=false by cases hb:Nat.beq q i with |false=>rfl|true=>exact absurd (Nat.eq_of_beq_eq_true hb) h];exact⟨rfl,rfl,rfl,rfl,rfl⟩
theorem oM(B:Nat->eh){N i q:Nat}(v:Int)(H:i<N)(hq:q<N):(bif Nat.beq q i then mg (0+0+1) (J v).cellsL (bX ((kf B N).getD i default))else bX ((kf B N).getD q default))=ey bX default (kf (s5 B i v) N) q:=by
 unfold ey;rw[du _ H,du _ hq,du _ hq];unfold s5;by_cases h:q=i
 .subst h;rw[Nat.beq_refl];rfl
 .rw[show Nat.beq q i=false by cases hb:Nat.beq q i with |false=>rfl|true=>exact absurd (Nat.eq_of_beq_eq_true hb) h];rfl
theorem Ir{n:Net}{d:Xa}{D:Nat->Curve->Except Int eK}{B:Nat->eh}{k:Nat}(h:nJ n d D (kf B n.flows.length) λq=>(B q).1.value)(v:Int):nJ n d D (kf (s5 B k v) n.flows.length) λq=>(B q).1.value:=λi a=>by
 have H:=h i a;obtain⟨b1,b,c,e,_⟩:=yU B k v i;rw[du _ a]at H⊢;rw[b1,b,c,e];exact H
theorem Cj{n:Net}{d:Xa}(c:fm n d=true)(a:n.lines.length<=2){D:Nat->Curve->Except Int eK}(e:∀i,i<n.flows.length->DelX (n.flows.getD i default).con (D i)) :
  ∃B,B=(λi=>d7 n d (fc n d) D i)/\nJ n d D (kf B n.flows.length) (λq=>(B q).1.value)/\(∀i,i<n.flows.length->yT n d i (B i))/\∀i,i<n.flows.length->(0<=(B i).1.value/\(B i).1.value<=10000)/\(B i).1.choice.length<=1000:=by
 refine⟨_,rfl,λi H=>?_,λi H=>?_,λi H=>?_⟩
 .rw[du _ H];have q:=mL c a H (e i H);exact⟨q.1,q.2.2⟩
 .obtain⟨⟨⟨h,l⟩,f⟩,_⟩:=bz.1 c;have b:FlowOk n.lines (n.flows.getD i default):=h.flow _ (by simp[H]);obtain⟨R,s,t⟩:=AH _ (⟨b.valid,b.con_fin⟩:Gd (n.flows.getD i default).con);have q:=mL c a H (e i H);have Q:=(HF c a H (e i H) s).ends;refine⟨q.1,?_⟩;rcases q.2.2 with g|g|⟨m,u,_⟩
  .exact .inl g
  .exact .inr (.inl g)
  .obtain⟨_,_,_,_,_,_,G⟩:=Q;rcases G with⟨G,_⟩|⟨G,_⟩|⟨_,j,o⟩
   .omega
   .omega
   .refine .inr (.inr ⟨m,?_⟩);obtain⟨r,k,p⟩:=F3 n d h l f i H _ j.1 (F4 h f H j) R t _ _ o;rw[k]at p;exact p
 .obtain⟨⟨⟨h,l⟩,f⟩,_⟩:=bz.1 c;have b:FlowOk n.lines (n.flows.getD i default):=h.flow _ (by simp[H]);have k:=kC b a;have q:=mL c a H (e i H);refine⟨q.2.1,?_⟩;rcases q.2.2 with⟨_,g,_⟩|⟨_,g,_⟩|⟨_,g,_⟩
  .show(d7 n d (fc n d) D i).1.choice.length<=1000;rw[g];exact π _
  .show(d7 n d (fc n d) D i).1.choice.length<=1000;rw[g];exact π _
  .show(d7 n d (fc n d) D i).1.choice.length<=1000;rw[g.1];omega
theorem HM(x:Bnd)(H:x.choice.length<=1000):bx 12 [.agg (xb x),.agg (xb x)] (.bool true):=by
 obtain⟨r,h,p⟩:=Ht x.choice x.choice H;obtain rfl:=h.2 rfl;obtain⟨f,v,m,c⟩:=x;rcases f with _|_;all_goals
  refine' db func12 ntmps12 results12
  all_goals first|exact Y|(exfalso;omega)
theorem JV(n:Net)(p:bx 21 [n.av,J 60] (.tup [.nils,J 0,J 5])):bx 8 [n.av] (.tup [.agg [.nils,.nils],J 5]):=by
 refine' db func8 ntmps8 results8
 all_goals first|exact Y|(exfalso;omega)
theorem mO(t:List Int)(w:Int)(F:0<=w/\w<=255):∃b:Bool,b=true/\bx 3 [c4 t,.int .u8 w] (.bool b):=by
 have o1:=M3 t;have g:=M4 (Rd.new t) 2 3 Z Z Z Z;obtain⟨R,a⟩:=DD (Rd.new t) 2 3 Z Z Z;obtain⟨n,S,X⟩:∃n S,(Rd.new t).net 2 3=(n,S):=⟨_,_,rfl⟩;have v:=FL _ o1 2 3 Z Z Z Z;rw[X]at v g R a;dsimp only at v g R a;have a:n.lines.length<=2:=a;have Q:=g.len;have hfl:=g.flen;obtain⟨_,rfl,G⟩:=MO;obtain⟨q,hx,P⟩:=sQ n g 60 Z Z;rcases q with _|⟨d,k⟩
 .have P:bx 21 [n.av,J 60] (.tup [.nils,J 0,J 5]):=P;have p2:=JV n P;refine dp func3 ntmps3 results3 ?_;repeat'(first|refine' ag|(refine dF (zo t) rfl ?_;conv=>whnf)|refine cn v ?_)
  all_goals try first|exact bs|exact ac ⟨true,rfl,rfl⟩|(exfalso;omega)
 .have P : bx 21 [n.av,J 60] (.tup [aB d,J k,J 0]):=P;obtain⟨hs,O,hp,m⟩:=Fy g hx;obtain⟨D,p⟩:=In n g;obtain⟨B,x,z,hR,N⟩:=Cj m a λi h=>(p i h).2;obtain⟨L,y,p2⟩:=Fz n d m a P λi h=>(p i h).1;have y:L=kf B n.flows.length:=by rw[y,x];rfl
  subst y;obtain⟨l,E,p5⟩:=MS n d m a D λi h=>(p i h).2;have E:l=(List.range n.flows.length).map λi=>(B i).1:=by rw[E,x];rfl
  have hll:l.length=n.flows.length:=by rw[E];simp
  have C:∀i,i<n.flows.length->l.getD i default=(B i).1:=λi h=>by rw[E];simp[h]
  clear E x;have H:=mN B n.flows.length;obtain⟨V,r,p3⟩:=mM m a (λi h=>(p i h).1) H z;obtain rfl:V=true:=r.2 λi h=>by rw[du B h];exact Int.le_refl _
  obtain⟨_,rfl,p4⟩:=HL m H λi h=>by rw[du B h];exact hR i h
  have p6:=λi (h:i<n.flows.length)=>HM (B i).1 (N i h).2;clear r;refine dp func3 ntmps3 results3 ?_;repeat'(first|refine' ag|(refine dF (zo t) rfl ?_;conv=>whnf)|refine cn v ?_)
  all_goals try first|exact bs|exact ac ⟨true,rfl,rfl⟩|(exfalso;omega)
  refine ae (ι:={j:Nat//j<=n.flows.length}) [1,5,6,8,70] [5,6] [] ⟨0,π _⟩ (λ⟨j,_⟩=>n.flows.length-j) (λ⟨j,_⟩=>[(71,J j)]) (λ_=>[]) ?_ ?_
  .exact⟨⟨rfl,rfl⟩,bt,bt⟩
  .rintro⟨j,hj⟩;conv=>whnf
   by_cases o:(j:Int)<l.length
   .have p7:bx 12 [.agg (xb (l.getD j default)),.agg (xb ((kf B n.flows.length).getD j default).1)] (.bool true):=by
     rw[C j Z,du B Z];exact p6 j Z
    repeat'(first|(refine U o λhb=>?_;conv=>whnf)|(exact aH [] ⟨j+1,Z⟩)|refine' ag|fail)
    all_goals try exact bs
   .by_cases K:(l.length:Int)=0
    .skip;repeat'(first|(refine U K λhb=>?_;conv=>whnf)|(refine M o λhb=>?_;conv=>whnf)|refine' ag|fail)
     all_goals try first|exact bs|exact ac ⟨true,rfl,rfl⟩|(exfalso;omega)
    .have hm1:=Int.tmod_nonneg (l.length:Int) F.1;have hm2:=Int.tmod_lt_of_pos w (Z:0<(l.length:Int));have h:(w.tmod l.length).toNat<n.flows.length:=Z;have hv:=(N _ h).1;rw[<-du B h]at hv;obtain⟨I,s,p8⟩:=mM m a (λi h=>(p i h).1) (mN _ _) (Ir (k:=(w.tmod l.length).toNat) z (((kf B n.flows.length).getD (w.tmod l.length).toNat default).1.value-1));obtain⟨W,u,p9⟩:=mM m a (λi h=>(p i h).1) (mN _ _) (Ir (k:=(w.tmod l.length).toNat) z (((kf B n.flows.length).getD (w.tmod l.length).toNat default).1.value+1));obtain rfl:I=false:=by
      cases I with
      |false=>rfl
      |true=>
       have:=s.1 rfl _ h;rw[du _ h,(yU B _ _ _).2.2.2.2,if_pos rfl,du B h]at this;omega
     obtain rfl:W=true:=u.2 λi A=>by
      rw[du _ A,(yU B _ _ _).2.2.2.2,du B h];split
      .rename_i e;rw[e];omega
      .exact Int.le_refl _
     have c:=mN (s5 B (w.tmod l.length).toNat (((kf B n.flows.length).getD (w.tmod l.length).toNat default).1.value-1)) n.flows.length;have f:=mN (s5 B (w.tmod l.length).toNat (((kf B n.flows.length).getD (w.tmod l.length).toNat default).1.value+1)) n.flows.length;clear s u;repeat'(first|(refine M K λhb=>?_;conv=>whnf)|(refine M o λhb=>?_;conv=>whnf)|(refine au [5,12] [5,12] [] [(13,.lptr 13 0)] [(13,some (.box [aB d,.osl 117 (kf (s5 B (w.tmod l.length).toNat (((kf B n.flows.length).getD (w.tmod l.length).toNat default).1.value+1)) n.flows.length).length])),(117,some (.arr (kf (s5 B (w.tmod l.length).toNat (((kf B n.flows.length).getD (w.tmod l.length).toNat default).1.value+1)) n.flows.length).length 5 (ey bX default (kf (s5 B (w.tmod l.length).toNat (((kf B n.flows.length).getD (w.tmod l.length).toNat default).1.value+1)) n.flows.length)) 49))] ⟨⟨rfl,rfl⟩,?_,?_⟩ ?_;(solve|((refine' b9)<;>first|exact ObLe.box (.cons Y (.cons (Θ (congrArg (AV.osl 117) (H.trans f.symm))) .nil))|exact cy (H.trans f.symm) λq hq=>oM B _ h Z|exact bt));(solve|((refine' b9)<;>first|exact ObLe.box (.cons Y (.cons (Θ (congrArg (AV.osl 117) (H.trans f.symm))) .nil))|exact cy (H.trans f.symm) λq hq=>oM B _ h Z|exact bt));(conv=>whnf);(refine az 117 rfl rfl (λ_ _=>rfl) ?_ ?_ ?_;(solve|try refine' b8);(solve|try refine' b8));(conv=>whnf))|(refine au [5,6,11] [5,6] [] [(12,.lptr 12 0)] [(12,some (.box [aB d,.osl 100 (kf (s5 B (w.tmod l.length).toNat (((kf B n.flows.length).getD (w.tmod l.length).toNat default).1.value-1)) n.flows.length).length])),(100,some (.arr (kf (s5 B (w.tmod l.length).toNat (((kf B n.flows.length).getD (w.tmod l.length).toNat default).1.value-1)) n.flows.length).length 5 (ey bX default (kf (s5 B (w.tmod l.length).toNat (((kf B n.flows.length).getD (w.tmod l.length).toNat default).1.value-1)) n.flows.length)) 49))] ⟨⟨rfl,rfl⟩,?_,?_⟩ ?_;(solve|((refine' b9)<;>first|exact ObLe.box (.cons Y (.cons (Θ (congrArg (AV.osl 100) (H.trans c.symm))) .nil))|exact cy (H.trans c.symm) λq hq=>oM B _ h Z|exact bt));(solve|((refine' b9)<;>first|exact ObLe.box (.cons Y (.cons (Θ (congrArg (AV.osl 100) (H.trans c.symm))) .nil))|exact cy (H.trans c.symm) λq hq=>oM B _ h Z|exact bt));(conv=>whnf);(refine az 100 rfl rfl (λ_ _=>rfl) ?_ ?_ ?_;(solve|try refine' b8);(solve|try refine' b8));(conv=>whnf))|refine' ag|fail)
     all_goals try first|exact bs|exact ac ⟨true,rfl,rfl⟩|(unfold oR;exact⟨.inl Z,λ_ _=>rfl⟩)|(exfalso;omega)
end Go.Nc
namespace Go.Nc
open Go.Proofs Go.RowKit
theorem HN{k:IntKind}{w:World}{x:Addr}{len cap:Nat}{z:List Int}(A:len<=cap)(v:len<=slMax)(C:z.length=cap)(d:∀i,i<z.length->w.cell? (x.add i)=some (.int k (z.getD i 0))) :
  ConI (λb=>b=x.block/\b<w.heap.size) w.heap (.isl len 1 λi=>[.int k ((z.take len).getD i 0)]) (.slice (some x) len cap):=by
 have r:(z.take len).length=len:=by simp;omega
 rcases Nat.eq_zero_or_pos cap with m|m
 .have E:len=0:=Z;subst E;subst m;exact .isl0 ..
 .obtain⟨b,o,S⟩:=x;have H:=d 0 Z;obtain⟨a,T,fr,hb⟩:∃a T fr,w.heap[b]? =some (.cells a T fr):=by
   unfold World.cell? Addr.add at H;rw[if_pos rfl]at H;dsimp only at H;split at H
   .exact⟨_,_,_,‹_›⟩
   .cases H
  have B:S=none:=by
   unfold World.cell? Addr.add at H;rw[if_pos rfl]at H;dsimp only at H;rw[hb]at H;dsimp only at H;cases S with
   |none=>rfl
   |some s=>simp at H
  subst B;have n:∀i,i<z.length->a[o+i]? =some (.int k (z.getD i 0)):=λi g=>by
   have h:=d i g;unfold World.cell? Addr.add at h;by_cases e:i=0
   .rw[if_pos e]at h;dsimp only at h;rw[hb]at h;rw[e];simpa[e]using h
   .rw[if_neg e]at h;dsimp only at h;rw[hb]at h;simpa using h
  have l:b<w.heap.size:=by
   rcases ζ b w.heap.size with h|h
   .exact h
   .rw[Array.getElem?_eq_none h]at hb;cases hb
  have p:o+(cap-1)<a.size:=by
   have h:=n (cap-1) Z;rcases ζ (o+(cap-1)) a.size with f|f
   .exact f
   .rw[Array.getElem?_eq_none f]at h;cases h
  refine .isl _ _ _ b o cap a T fr ⟨rfl,l⟩ hb (λ_ _=>rfl) A v Z λi j c y g q t=>?_;match j with
  |0 =>
   have E:=Option.some.inj q;rw[<-E];rw[(Z:o+i*1+0=o+i),n i Z]at t;rw[<-Option.some.inj t];have u:(z.take len).getD i 0=z.getD i 0:=by
    simp[g]
   rw[u];exact .int ..
  |j+1=>cases q
theorem row_con{w:World}{x:Addr}{len cap:Nat}{z:List Int}(c:len<=cap)(a:len<=slMax)(d:z.length=cap)(h:∀i,i<z.length->w.cell? (x.add i)=some (.int .i64 (z.getD i 0))) :
  ConI (λb=>b=x.block/\b<w.heap.size) w.heap (c4 (z.take len)) (.slice (some x) len cap):=by
 have H:(z.take len).length=len:=by simp;omega
 unfold c4;rw[H];exact HN c a d h
theorem CallSpec.law{P:Program}{f:FuncId}{V:List AV}{v:Bool}(h:CallSpec P f V [] (.bool v) []){w:World}{x:Array Value}(Im:Nat->Prop)(c:∀b,Im b->b<w.heap.size)(j:Cons (λ_=>(none,0)) Im w.heap V x) :
  Calls P f x w λe W=>e=.returned (.bool v)/\Below w.heap.size w W:=by
 refine(h.calls w (λ_=>(none,0)) Im x ?_ j).mono λe W g=>?_
 .refine⟨?_,?_,?_,?_,c,λ_ h=>h,λ_ h=>.inl h,rfl,rfl,rfl,ξ _,λ_ _ _=>rfl,λid h=>(by cases h),λl r h=>⟨r.state,r.pending,h⟩,λl h=>(by cases h)⟩
  .intro id ob h;cases h
  .intro id ob b h;cases h
  .intro id m ob o b h;cases h
  .intro id ob h;cases h
 .obtain⟨y,n,I,rfl,d,_,H⟩:=g;refine⟨?_,H.os,H.tape,H.output,H.size,λk i=>H.frame k i (by intro id a;cases a)⟩;cases d with
  |imm _ _ h=>cases h;rfl
end Go.Nc
namespace Go.Nc
open Go.Proofs.Tryz
open Go.Proofs Go.RowKit
theorem kG{ρ:Loc}{Im:Nat->Prop}{H:eZ}{a b:AV}{x y:Value}(d:Con ρ Im H a x)(e:Con ρ Im H b y):Cons ρ Im H [a,b] #[x,y]:=by
 refine⟨rfl,λi u v h c=>?_⟩;match i with
 |0=>cases h;cases c;exact d
 |1=>cases h;cases c;exact e
 |i+2=>cases h
theorem certificateMade_calls(a:Option Addr)(len cap:Nat)(t:List Int)(v:Int)(w:World)(c:0<=v/\v<=255)(Im:Nat->Prop)(h:∀b,Im b->b<w.heap.size)(H:ConI Im w.heap (c4 t) (.slice a len cap)) :
  Calls prog 3 #[.slice a len cap,.int .u8 v] w λe W=>e=.returned (.bool true)/\Below w.heap.size w W:=by
 obtain⟨b,rfl,p⟩:=mO t v c;exact p.law Im h (kG (.imm _ _ H) (.imm _ _ (.int ..)))
#print axioms certificateMade_calls
end Go.Nc