/- Parts. -/
import Derived.Test.YtooapceogfengaaGreatNdJB
namespace Go.Nc
open Go.Proofs.Tryz
open Go.Proofs
set_option maxHeartbeats 8000000
mutual
theorem D6(id:Nat)(o:LObj):∀v:AV,gu [] v=true->sb id o v/\g0 id o v=v
 |.fn g cs,h=>by
  have:=H2 id o cs (by simpa[gu]using h);exact⟨by simpa[sb]using this.1,by simp only[g0,this.2]⟩
 |.agg cs,h=>by
  have:=H2 id o cs (by simpa[gu]using h);exact⟨by simpa[sb]using this.1,by simp only[g0,this.2]⟩
 |.tup cs,h=>by
  have:=H2 id o cs (by simpa[gu]using h);exact⟨by simpa[sb]using this.1,by simp only[g0,this.2]⟩
 |.lptr ..,h|.osl ..,h|.osub ..,h|.optr ..,h|.mref ..,h|.yld ..,h=>by simp[gu]at h
 |.int ..,_|.bool ..,_|.str ..,_|.junk,_|.isl ..,_|.icap ..,_|.eptr ..,_|.ibox ..,_|.nils,_|.emp,_|.niface,_|.nfunc,_|.nptr,_|.nmap,_|.iface ..,_=>⟨by simp[sb],rfl⟩
theorem H2(id:Nat)(o:LObj):∀l:List AV,ka [] l=true->o7 id o l/\nb id o l=l
 |[],_=>⟨trivial,rfl⟩
 |c::cs,h=>by
  simp only[ka,Bool.and_eq_true]at h;have H:=D6 id o c h.1;have a:=H2 id o cs h.2;exact⟨⟨H.1,a.1⟩,by simp only[nb,H.2,a.2]⟩
end
def ff(n:Net)(F:Nat->Nat->Int)(i:Nat):List Int:=(List.range (n.lines.getD i default).classes.toNat).map (F i)
theorem kv(n:Net)(F:Nat->Nat->Int)(i:Nat):(ff n F i).length=(n.lines.getD i default).classes.toNat:=by simp[ff]
theorem oD(n:Net)(F:Nat->Nat->Int){i c:Nat}(h:c<(n.lines.getD i default).classes.toNat):(ff n F i).getD c 0=F i c:=bE h
def wa(n:Net)(F:Nat->Nat->Int)(j:Nat):Nat->List AV:=λi=>bif Nat.blt i j then dZ (ff n F i)else[.nils]
theorem D7{n:Net}{F:Nat->Nat->Int}{i j:Nat}(h:i<j):wa n F j i=dZ (ff n F i):=by
 unfold wa;rw[Nat.blt_eq.mpr h];rfl
theorem yn(I:List Nat)(n:Net)(F:Nat->Nat->Int)(j i:Nat):ka I (wa n F j i)=true:=by
 unfold wa;cases Nat.blt i j<;>rfl
def KZ(n:Net)(F:Nat->Nat->Int)(j:Nat):Nat->List AV:=λi=>bif Nat.beq i j then[.osl 25 (ff n F j).length]else wa n F j i
theorem wy(n:Net)(F:Nat->Nat->Int)(j:Nat):wa n F j j=[.nils]:=by
 unfold wa;rw[show Nat.blt j j=false by cases hb:Nat.blt j j with |false=>rfl|true=>exact absurd (Nat.blt_eq.mp hb) (Nat.lt_irrefl _)];rfl
theorem G0(n:Net)(F:Nat->Nat->Int)(j X:Nat):mg 0 (AV.osl 25 X).cellsL (wa n F j j)=[.osl 25 X]:=by rw[wy];rfl
theorem D8{n:Net}{F:Nat->Nat->Int}{j X i:Nat}(h:X=(ff n F j).length):(bif Nat.beq i j then mg 0 (AV.osl 25 X).cellsL (wa n F j j)else wa n F j i)=H1 (J4 []) (KZ n F j i):=by
 rw[ia,wy,h];rfl
theorem G1(n:Net)(F:Nat->Nat->Int)(j:Nat):KZ n F j j=[.osl 25 (ff n F j).length]:=by
 unfold KZ;rw[Nat.beq_refl];rfl
theorem D9{I:List Nat}(h:I.elem 25=true)(n:Net)(F:Nat->Nat->Int)(j i:Nat):ka I (KZ n F j i)=true:=by
 unfold KZ;cases Nat.beq i j with
 |true=>show(I.elem 25&&true)=true;rw[h];rfl
 |false=>exact yn I n F j i
theorem G2{i j:Nat}(h:Nat.beq i j=false):Nat.blt i (j+1)=Nat.blt i j:=by
 have H:i≠j:=λe=>by rw[e,Nat.beq_refl]at h;cases h
 cases h1:Nat.blt i j with
 |true=>exact Nat.blt_eq.mpr (by have:=Nat.blt_eq.mp h1;omega)
 |false=>
  cases h2:Nat.blt i (j+1)with
  |false=>rfl
  |true=>
   have:=Nat.blt_eq.mp h2;rw[Nat.blt_eq.mpr (Z:i<j)]at h1;cases h1
theorem IQ(n:Net)(F:Nat->Nat->Int)(j i:Nat):nb 25 (.arr (ff n F j).length 1 (λi=>[J ((ff n F j).getD i 0)]) 3) (KZ n F j i)=wa n F (j+1) i:=by
 unfold KZ;cases h:Nat.beq i j with
 |true=>
  have e:=Nat.eq_of_beq_eq_true h;subst e;rw[D7 (n:=n) (F:=F) (i:=i) (j:=i+1) Z];rfl
 |false=>
  show nb 25 _ (wa n F j i)=_;unfold wa;rw[G2 h];cases Nat.blt i j<;>rfl
theorem DA(n:Net)(h:NetOk n)(f:FuncId)(cs:List AV)(d:ka [] cs=true)(F:Nat->Nat->Int)
  (g:∀i c:Nat,i<n.lines.length->(c:Int)<(n.lines.getD i default).classes->bx f (J i::J c::cs) (J (F i c))) :
  ∃_:Unit,True/\fl 63 [n.av,.fn f cs] [] (.osl 12 n.lines.length) [(12,.arr n.lines.length 1 (λi=>dZ (ff n F i)) 22)]:=by
 have a:gu [] (AV.fn f cs)=true:=by unfold gu;exact d
 have k:=h.len;refine dp func63 ntmps63 results63 ?_ (hcl:=⟨rfl,by simp[ka,gu,d,Net.av,Net.cells,iB],by simp⟩) (hco:=λ_=>⟨rfl,bW (λi H=>rfl),rfl⟩);repeat'(first|refine' ag|fail)
 all_goals try exact bs
 refine ae (ι:={j:Nat//j<=n.lines.length}) [1,14,15] [] [] ⟨0,π _⟩ (λ⟨j,_⟩=>n.lines.length-j) (λ⟨j,_⟩=>[(5,.osl 12 n.lines.length),(16,J j)]) (λ⟨j,_⟩=>[(12,some (.arr n.lines.length 1 (wa n F j) 22))]) ?_ ?_
 .refine⟨⟨rfl,rfl⟩,?_,?_⟩;all_goals((refine' b9)<;>first|exact bJ _ _ a|exact Θ (dz _).symm|exactλi H=>yn _ _ _ _ _|exact cy rfl λi H=>rfl|exact bt)
 .rintro⟨j,q⟩;conv=>whnf
  by_cases e:(j:Int)<n.lines.length
  .have hcl:=(h.line (n.lines.getD j default) (by rw[ψ,β Z];exact List.getElem_mem _)).cls;have E:n.lines.getD (j:Int).toNat default=n.lines.getD j default:=rfl;have b:=kv n F j;repeat'(first|(refine VCells.mk ⟨[.osl 25 (n.lines.getD (j:Int).toNat default).classes.toNat],by(dsimp only;rw[Nat.beq_refl];exact G0 _ _ _ _),?_⟩;conv=>whnf)|(refine U e λhb=>?_;conv=>whnf)|refine' ag|fail)
   all_goals try first|exact bs|(rw[E];omega)|(rw[E];unfold ah;omega)
   refine ae (ι:={c:Nat//c<=(ff n F j).length}) [1,6,14,15,16] [] [] ⟨0,π _⟩ (λ⟨c,_⟩=>(ff n F j).length-c) (λ⟨c,_⟩=>[(5,.osl 12 n.lines.length),(31,J (ff n F j).length),(32,J c)]) (λ⟨c,_⟩=>[(12,some (.arr n.lines.length 1 (KZ n F j) 22)),(25,some (.arr (ff n F j).length 1 (dR (F j) c) 3))]) ?_ ?_
   .refine⟨⟨rfl,rfl⟩,?_,?_⟩;all_goals((refine' b9)<;>first|exact bJ _ _ a|exact Θ (dz _).symm|exactλi H=>D9 rfl _ _ _ _|exact cy rfl (λi H=>D8 b.symm)|exact cy b.symm λi H=>rfl|exact Ξ (by rw[b];rfl)|exact bt)
   .rintro⟨c,p⟩;conv=>whnf
    by_cases hcl:(c:Int)<(ff n F j).length
    .have P:=g j c Z Z;repeat'(first|(refine VCells.mk ⟨[.osl 25 (ff n F j).length],G1 _ _ _,?_⟩;conv=>whnf)|(refine U hcl λhb=>?_;conv=>whnf)|(refine' aN [] ⟨c+1,Z⟩<;>first|(first|exact bJ _ _ a|exact Θ (dz _).symm|exactλi H=>D9 rfl _ _ _ _|exact cy rfl (λi H=>(ia _).symm)|exact cy rfl λi H=>aV rfl)|exact bt)|refine' ag|fail)
     all_goals try exact bs
    .have o:c=(ff n F j).length:=Z;have m:∀i,i<(ff n F j).length->dR (F j) c i=[J ((ff n F j).getD i 0)]:=λi H=>by rw[cr Z,oD n F Z]
     refine au [1,5,14,15,16,31,32] [] [] [] [(12,some (.arr n.lines.length 1 (KZ n F j) 22)),(25,some (.arr (ff n F j).length 1 (λi=>[J ((ff n F j).getD i 0)]) 3))] ⟨⟨rfl,rfl⟩,?_,?_⟩ ?_
     .skip;all_goals((refine' b9)<;>first|exactλi H=>D9 rfl _ _ _ _|exact cy rfl (λi H=>(ia _).symm)|exact cy rfl m|exact bt)
     .skip;all_goals((refine' b9)<;>first|exact bJ _ _ a|exact Θ (dz _).symm|exact bt)
     conv=>whnf
     refine az 25 rfl rfl (λ_ _=>rfl) ?_ ?_ ?_
     ·(repeat'(first|exact True.intro|refine And.intro ?_ ?_))<;>first|exact ξ _|exact(D6 25 _ _ a).1
     .refine⟨λi H=>?_,λi H=>⟨trivial,trivial⟩,?_⟩
      .unfold KZ;exact CA ⟨ξ _,trivial⟩ λ_=>by
        unfold wa;cases Nat.blt i j<;>exact⟨trivial,trivial⟩
      .exact trivial
     conv=>whnf
     repeat'(first|(refine M hcl λhb=>?_;conv=>whnf)|(refine' aN [] ⟨j+1,Z⟩<;>first|(first|exact Θ ((D6 25 _ _ a).2.trans (dz _).symm)|exact bJ _ _ a|exact Θ (dz _).symm|exactλi H=>yn _ _ _ _ _|exact cy rfl (λi H=>(IQ n F j i).trans (ia _).symm))|exact bt)|refine' ag|fail)
     all_goals try exact bs
  .have l:j=n.lines.length:=Z;subst l;repeat'(first|(refine M e λhb=>?_;conv=>whnf)|refine' ag|fail)
   refine aU [4] [] [] [] [(12,some (.arr n.lines.length 1 (λi=>dZ (ff n F i)) 22))] ⟨⟨rfl,rfl⟩,?_,?_⟩ ?_
   .skip;all_goals((refine' b9)<;>first|exact cy rfl λi H=>D7 Z|exact bt)
   .skip;all_goals exact bt
   conv=>whnf
   exact aJ ⟨(),rfl,⟨rfl,trivial⟩,trivial⟩
def r8(n:Net)(F:Nat->Nat->Int):Xa:=(List.range n.lines.length).map (ff n F)
theorem iG(n:Net)(F:Nat->Nat->Int):(r8 n F).length=n.lines.length:=by simp[r8]
theorem gD(n:Net)(F:Nat->Nat->Int){i:Nat}(h:i<n.lines.length):(r8 n F).getD i []=ff n F i:=by
 simp[r8,h]
theorem B9(i c:Nat):bx 64 [J i,J c] (J 0):=by
 refine' db func64 ntmps64 results64
 all_goals exact Y
theorem DB(n:Net)(h:NetOk n):fl 41 [n.av] [] (.osl 12 n.lines.length) [(12,.arr n.lines.length 1 (λi=>dZ (ff n (λ_ _=>0) i)) 22)]:=by
 have p:=iV n h;obtain⟨_,_,P⟩:=DA n h 64 [] rfl (λ_ _=>0) (λi c _ _=>B9 i c);refine ee func41 ntmps41 results41 (λ_ _ _=>?_) (hcl:=⟨rfl,rfl,rfl,by simp,bW (λi H=>rfl),rfl⟩);repeat'(first|refine' gM|refine ab p ?_|(refine dF P rfl ?_;conv=>whnf))
 all_goals first|exact Y|rfl|(exfalso;omega)
noncomputable def nu(n:Net)(d:Xa)(i c:Nat):Int:=match gC n d i c with
 |.ok v=>v
 |.error _=>-1
theorem BA(n:Net)(d:Xa)(h:NetOk n)(f:ShapeOk n d)(i c:Nat)(g:i<n.lines.length)(b:(c:Int)<(n.lines.getD i default).classes) :
  bx 99 (J i::J c::[.ibox n.cells 0,.ibox [aB d] 0]) (J (nu n d i c)):=by
 have a:0<=(i:Int)/\(i:Int)<n.lines.length:=Z;have p:=IP n d h f i a c b;unfold nu;rcases hx:gC n d i c with e|v
 .have H:=br (wx h f a b hx);rw[hx]at p;refine' db func99 ntmps99 results99
  all_goals first|exact absurd ‹_› H|exact Y|omega|(exfalso;omega)
 .rw[hx]at p;refine' db func99 ntmps99 results99
  all_goals first|exact Y|omega|(exfalso;omega)
noncomputable def iH(n:Net)(d:Xa):Xa:=r8 n (nu n d)
def K5:Except Int (Xa)->AV
 |.ok d=>.tup [aB d,J 0]
 |.error e=>.tup [.nils,J e]
theorem DC(n:Net)(d:Xa)(h:NetOk n)(a:ShapeOk n d):bx 66 [n.av,aB d] (K5 (.ok (iH n d))):=by
 have f:=dm n d h a;obtain⟨_,_,P⟩:=DA n h 99 [.ibox n.cells 0,.ibox [aB d] 0] rfl (nu n d) (λi c H b=>BA n d h a i c H b);suffices e:∃y,y=Except.ok (iH n d)/\bx 66 [n.av,aB d] (K5 y) by obtain⟨y,rfl,p⟩:=e;exact p
 refine dp func66 ntmps66 results66 ?_ (hco:=λx=>⟨by cases x<;>rfl,by simp,rfl⟩);repeat'(first|(refine au [] [2,3] [] [(2,.lptr 2 0),(3,.lptr 3 0)] [] ⟨⟨rfl,rfl⟩,bt,bt⟩ ?_;(conv=>whnf);(refine az 2 rfl rfl rfl ?_ ?_ ?_;(solve|try refine' b8);(solve|try refine' b8));(conv=>whnf);(refine az 3 rfl rfl rfl ?_ ?_ ?_;(solve|try refine' b8);(solve|try refine' b8));(conv=>whnf))|refine' ag|(refine dF P rfl ?_;conv=>whnf))
 all_goals try first|omega|(exfalso;omega)
 refine aU [4,5] [] [] [] [(12,some (.arr n.lines.length 1 (λi=>dZ ((iH n d).getD i [])) 22))] ⟨⟨rfl,rfl⟩,?_,?_⟩ (bb 12 rfl rfl (λ_ _=>rfl) ?_ ?_ (bQ ?_))
 .skip;all_goals((refine' b9)<;>first|exact cy rfl λi H=>congrArg dZ (gD n (nu n d) H).symm|exact bt)
 .skip;all_goals exact bt
 .all_goals try refine' b8
 .all_goals try refine' b8
 .conv=>whnf
  exact⟨.ok (iH n d),AvLe.tup (.cons (Γ (iG n (nu n d)).symm λi H=>rfl) (.cons Y .nil)),rfl⟩
structure Ord(N:Nat)(E:Nat->Nat->Bool)(l:List Nat):Prop where
 nodup:l.Nodup
 lt:∀x∈l,x<N
 topo:∀p b q,l=p++b::q->∀a,a<N->E a b=true->a∈p
theorem Ord.nil{N:Nat}{E:Nat->Nat->Bool}:Ord N E []:=⟨List.nodup_nil,λx H=>(by cases H),λp b q h=>(by cases p<;>cases h)⟩
theorem G3{n:Net}{d:Xa}(h:NetOk n)(e:ShapeOk n d){L:Int}(c:0<=L/\L<n.lines.length){k:Nat}(f:(k:Int)<(n.lines.getD L.toNat default).classes){v:Int}(H:gC n d L k=.ok v):0<=v/\v<=400:=by
 have q:=(uv h e c f).dx;unfold gC at H;rcases hm:(iF n d L k).1 with E|⟨i,a,w⟩
 .rw[hm]at H;cases H
 .rw[hm]at H q;dsimp only at H;split at H
  .cases H
  .rename_i g;injection H with H;subst H;have Q:0<=a:=q;refine⟨Q,?_⟩;rcases Int.lt_or_le 400 a with b|b
   .exact absurd (.inr b) g
   .exact b
def Ny(N:Nat)(E:Nat->Nat->Bool)(o:List Nat)(r:Nat):Prop:=(r<N/\r∉o/\∀a,a<N->E a r=true->a∈o)/\∀b,b<r->b∈o\/∃a,a<N/\a∉o/\E a b=true
def OrdC(N:Nat)(E:Nat->Nat->Bool)(l:List Nat):Prop:=∀i,i<l.length->Ny N E (l.take i) (l.getD i 0)
theorem OrdC.nil{N:Nat}{E:Nat->Nat->Bool}:OrdC N E []:=ν
def OY(y:Nat):List (Nat×Nat)->Int
 |[]=>0
 |p::r=>(if p.2=y then 1 else 0)+OY y r
def LY(E:Nat->Nat->Bool)(y:Nat):Nat->Int:=OZ λx=>if E x y=true then 1 else 0
structure EdgL(N:Nat)(E:Nat->Nat->Bool)(a b:Nat)(l:List (Nat×Nat)):Prop where
 len:l.length<=N*a+b
 lt:∀p∈l,p.1<N/\p.2<N
 cnt:∀y,y<N->OY y l=LY E y a+(if y<b/\E a y=true then 1 else 0)
theorem EdgL.nil{N:Nat}{E:Nat -> Nat -> Bool}:EdgL N E 0 0 []:=⟨π _,fun p H=>(by cases H),fun y a=>by
 show(0:Int)=0+_;rw[if_neg (λh=>absurd h.1 (Nat.not_lt_zero y))];rfl⟩
theorem EdgL.row{N:Nat}{E:Nat->Nat->Bool}{a:Nat}{l:List (Nat×Nat)}(h:EdgL N E a N l):EdgL N E (a+1) 0 l:=by
 refine⟨by have:=h.len;rw[Nat.mul_succ];omega,h.lt,λy H=>?_⟩;rw[h.cnt y H];show _=LY E y a+(if E a y=true then 1 else 0)+_;simp only[H,true_and,Nat.not_lt_zero,false_and,if_false];omega
theorem zV{r:List Int}{v:Int}{c i:Nat}(a:r.length=c):(bif Nat.beq i c then[J v]else[J (r.getD i 0)])=[J ((r++[v]).getD i 0)]:=by
 subst a;by_cases e:i=r.length
 .subst e;rw[Nat.beq_refl];simp
 .rw[show Nat.beq i r.length=false from Bool.eq_false_iff.mpr λh=>e (Nat.eq_of_beq_eq_true h)];rcases ζ i r.length with H|H
  .simp[List.getElem?_append,H]
  .rw[ψ,ψ,List.getElem?_eq_none (Z:r.length<=i),List.getElem?_eq_none (show(r++[v]).length<=i by simp;omega)];rfl
def BB(s:ByteArray):Prop:=WordP s
theorem r9(i:Nat):BB (lG i):=sn i
theorem rA(i:Nat):BB (dE i):=so i
theorem j7:∀n,∀x∈bR n,BB x
 |0,_,h=>by cases h
 |n+1,x,h=>by
  rcases List.mem_append.1 h with h|h
  .exact j7 n x h
  .rw[List.mem_singleton.1 h];exact r9 n
theorem j8:∀n,∀x∈ju n,BB x
 |0,_,h=>by cases h
 |n+1,x,h=>by
  rcases List.mem_append.1 h with h|h
  .exact j8 n x h
  .rw[List.mem_singleton.1 h];exact rA n
structure NamesOk(n:Net):Prop where
 names:∀x∈n.names,BB x
 flows:∀f∈n.flows,BB f.name
theorem DD(s:Rd)(L F:Int)(r:1<=L)(t:L<=4)(u:0<=F):NamesOk (s.net L F).1/\(s.net L F).1.lines.length<=L.toNat:=by
 obtain⟨k,d,E⟩:∃k d,s.range 1 2=(k,d):=⟨_,_,rfl⟩;obtain⟨c,S,j⟩:∃c S,d.range 1 L=(c,S):=⟨_,_,rfl⟩;obtain⟨l,g,m⟩:∃l g,Rd.lines k c.toNat S=(l,g):=⟨_,_,rfl⟩;obtain⟨e,a,n⟩:∃e a,g.range 0 F=(e,a):=⟨_,_,rfl⟩;have v:=cq E Z;have w:=cq j Z;have x:=cq n Z;have o:s.net L F=(⟨bR c.toNat,l,(Rd.flows c.toNat k e.toNat a).1⟩,(Rd.flows c.toNat k e.toNat a).2):=by
  simp only[Rd.net,E,j,m,n]
 rw[o];have b:=pG (k:=k) Z c.toNat S;have h:=Rd.lines_len k S c.toNat;rw[m]at b h;dsimp only at b h;have hcl:∀i:Nat,i<c.toNat->(l.getD i default).classes=k:=λi q=>(b _ (by simp[<-h,q])).2;have H:=pH h.symm Z Z Z hcl e.toNat a;refine⟨⟨j7 _,λf p=>j8 e.toNat _ ?_⟩,κ⟩;rw[<-H.2];exact List.mem_map.2 ⟨f,p,rfl⟩
theorem ValidF.valid{c:Curve}(h:ValidF c):c.valid=true:=by
 have f:=h.len;have k:=h.per;have d:=h.inc;obtain⟨r,g⟩:=xS (l:=c.vals) (a:=0) (λi d=>(h.val i d).2) h.mono (λ_=>(h.val 0 Z).1);have b:c.vals≠[]:=λe=>by rw[e]at f;simp at f
 have H:=gm g b;have j:=h.val (c.vals.length-1) Z;unfold Curve.valid;rw[if_neg Z,g];dsimp only;rw[if_neg (by unfold cx;omega)];exact decide_eq_true (H▸h.last)
theorem fP(c:Curve)(h:ValidF c):∃b:Bool,b=true/\bx 89 [c.av] (.bool b):=by
 obtain⟨b,hb,p⟩:=cJ c;exact⟨b,hb.trans h.valid,p⟩
theorem bO(c:Curve)(h:ValidF c):∃b:Bool,b=true/\bx 90 [c.av] (.bool b):=by
 have H:=h.len;have a:=h.val (c.vals.length-1) Z;obtain⟨b,hb,p⟩:=lH c h.valid;exact⟨b,hb.2 (by unfold cx;omega),p⟩
theorem w5(n:Net)(h:NetOk n)(A:NamesOk n)(i:Nat)(d:i<n.flows.length):∃e:Int,e=0/\bx 55 [n.av,J i] (J e):=by
 obtain⟨f,E⟩:∃f,f=n.flows.getD i default:=⟨_,rfl⟩;have a:f∈n.flows:=by rw[E,ψ,β d];exact List.getElem_mem _
 have H:FlowOk n.lines f:=h.flow _ a;have x:=H.ne;have t:=h.flen;have v:=h.len;have p:=H.cls;have y:=H.sizes;have o:=H.zero;have l:=pK H.valid H.fin;have z:=l.len;have C:bx 53 [.str f.name] (.bool true):=z5 (A.flows _ a);obtain⟨_,rfl,B⟩:=fP f.con l;obtain⟨_,rfl,P⟩:=bO f.con l;have b:∀j:Nat,j<i->¬(n.flows.getD (j:Int).toNat default).name=f.name:=λj u e=>by
  have r:(n.flows.map Flow.name).getD j .empty=(n.flows.getD j default).name:=by simp[(Z:j<n.flows.length)]
  have s:(n.flows.map Flow.name).getD i .empty=f.name:=by rw[E];simp[d]
  have:=tT h.fnodup (i:=j) (j:=i) (by simpa using(by omega:j<n.flows.length)) (by simpa using d) .empty (by rw[r,s];exact e);omega
 refine dp func55 ntmps55 results55 ?_;refine fg ?_;conv=>whnf
 refine fg ?_;conv=>whnf
 refine Side.mk ⟨Z,Z⟩ ?_;conv=>whnf
 refine au [1,2,5] [2] [] [] [(5,some (.box f.cells))] ⟨⟨rfl,rfl⟩,?_,?_⟩ ?_
 .skip;all_goals((refine' b9)<;>first|rw[E];exact kd|exact bt)
 .skip;all_goals exact bt
 conv=>whnf
 repeat'(first|refine' bB|refine ab C ?_)
 all_goals try exact bs
 refine ae (ι:={j:Nat//j<=i}) [1,2,5] [2,5] [] ⟨0,Z⟩ (λ⟨j,_⟩=>i-j) (λ⟨j,_⟩=>[(6,J j)]) (λ_=>[]) ?_ ?_
 .exact⟨⟨rfl,rfl⟩,bt,bt⟩
 .rintro⟨j,u⟩;conv=>whnf
  repeat'(first|(exact aH [] ⟨j+1,Z⟩)|refine' bB|fail)
  all_goals try exact bs
  all_goals try exact absurd ‹_› (b j Z)
  all_goals try exact⟨_,rfl,by exfalso;omega⟩
  all_goals try exact⟨_,rfl,absurd (pA _ _ (eq_of_beq ‹_›)) (b j Z)⟩
  refine ae (ι:={j:Nat//j<=f.route.length}) [2,5] [2,5] [] ⟨0,Z⟩ (λ⟨j,_⟩=>f.route.length-j) (λ⟨j,_⟩=>[(7,J j)]) (λ_=>[]) ?_ ?_
  .exact⟨⟨rfl,rfl⟩,bt,bt⟩
  .rintro⟨k,c⟩;conv=>whnf
   have q:k<f.route.length->0<=f.route.getD (k:Int).toNat 0/\f.route.getD (k:Int).toNat 0<n.lines.length:=λc=>H.lines _ (a8 (Z:(k:Int).toNat<f.route.length));have w:k<f.route.length->f.class_<(n.lines.getD (f.route.getD (k:Int).toNat 0).toNat default).classes:=λc=>H.cls2 _ (a8 (Z:(k:Int).toNat<f.route.length));have g:∀m:Nat,m<k->k<f.route.length->¬f.route.getD (m:Int).toNat 0=f.route.getD (k:Int).toNat 0:=λm q c e=>by
    have:=tT H.nodup (i:=m) (j:=k) Z c 0 e;omega
   have D:f.con.vals.getD ((0:Int)).toNat 0=0:=o;repeat'(first|(exact aH [] ⟨k+1,Z⟩)|refine' bB|refine ab B ?_|refine ab P ?_)
   all_goals try exact bs
   all_goals try exact⟨0,rfl,rfl⟩
   all_goals try exact⟨_,rfl,by exfalso;omega⟩
   refine ae (ι:={m:Nat//m<=k}) [2,5,7,8] [2,5] [] ⟨0,Z⟩ (λ⟨m,_⟩=>k-m) (λ⟨m,_⟩=>[(9,J m)]) (λ_=>[]) ?_ ?_
   .exact⟨⟨rfl,rfl⟩,bt,bt⟩
   .rintro⟨m,q⟩;conv=>whnf
    repeat'(first|(exact aH [] ⟨m+1,Z⟩)|(exact aH [] ⟨k+1,Z⟩)|refine' bB|fail)
    all_goals try exact bs
    all_goals try exact⟨_,rfl,by exfalso;omega⟩
    all_goals try exact⟨_,rfl,by exfalso;exact g m Z Z ‹_›⟩
theorem mj(n:Net)(h:NetOk n)(d:NamesOk n):∃e:Int,e=0/\bx 28 [n.av] (J e):=by
 have k:=h.flen;have l:=h.len;have o:=h.nlen;have f:∀i:Nat,i<n.lines.length->LineOk (n.lines.getD i default):=λi c=>h.line _ (by simp[c]);have g:∀i:Nat,i<n.lines.length->bx 53 [.str (n.names.getD i .empty)] (.bool true):=λi c=>z5 (d.names _ (by simp[(Z:i<n.names.length)]));refine dp func28 ntmps28 results28 ?_;repeat'(first|refine' bB|fail)
 all_goals try first|exact bs|exact⟨_,rfl,by exfalso;omega⟩
 refine ae (ι:={i:Nat//i<=n.lines.length}) [1] [1] [] ⟨0,Z⟩ (λ⟨i,_⟩=>n.lines.length-i) (λ⟨i,_⟩=>[(3,J i)]) (λ_=>[]) ?_ ?_
 .exact⟨⟨rfl,rfl⟩,bt,bt⟩
 .rintro⟨i,c⟩;conv=>whnf
  by_cases a:(i:Int)<n.lines.length
  .have p:=g i Z;obtain⟨_,rfl,P⟩:=lI _ (f i Z);repeat'(first|(refine U a λhb=>?_;conv=>whnf)|refine' bB|refine ab p ?_)
   all_goals try exact bs
   refine ae (ι:={m:Nat//m<=i}) [1,3] [1] [] ⟨0,Z⟩ (λ⟨m,_⟩=>i-m) (λ⟨m,_⟩=>[(4,J m)]) (λ_=>[]) ?_ ?_
   .exact⟨⟨rfl,rfl⟩,bt,bt⟩
   .rintro⟨m,r⟩;conv=>whnf
    by_cases b:(m:Int)<i
    .skip;repeat'(first|(refine U b λhb=>?_;conv=>whnf)|(exact aH [] ⟨m+1,Z⟩)|refine' bB|fail)
     all_goals try exact bs
     all_goals exact ⟨_,rfl,by
      exfalso;have:=tT h.nodup (i:=(m:Int).toNat) (j:=(i:Int).toNat) Z Z .empty (pA _ _ (eq_of_beq ‹_›));omega⟩
    .skip;repeat'(first|(refine M b λhb=>?_;conv=>whnf)|(exact aH [] ⟨i+1,Z⟩)|refine' bB|refine ab P ?_)
     all_goals try exact bs
  .skip;repeat'(first|(refine M a λhb=>?_;conv=>whnf)|refine' ag|fail)
   all_goals try exact bs
   refine ae (ι:={i:Nat//i<=n.flows.length}) [1] [1] [] ⟨0,Z⟩ (λ⟨i,_⟩=>n.flows.length-i) (λ⟨i,_⟩=>[(6,J i)]) (λ_=>[]) ?_ ?_
   .exact⟨⟨rfl,rfl⟩,bt,bt⟩
   .rintro⟨i,c⟩;conv=>whnf
    by_cases H:(i:Int)<n.flows.length
    .obtain⟨_,rfl,q⟩:=w5 n h d i Z;repeat'(first|(refine U H λhb=>?_;conv=>whnf)|(exact aH [] ⟨i+1,Z⟩)|refine' bB|refine ab q ?_)
     all_goals try exact bs
    .skip;repeat'(first|(refine M H λhb=>?_;conv=>whnf)|refine' bB|fail)
     all_goals first|exact⟨0,rfl,rfl⟩|exact bs
theorem NetOk.names{n:Net}(h:NetOk n):NamesOk n:=⟨h.word,h.fword⟩
end Go.Nc