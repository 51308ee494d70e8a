/- Parts. -/
import Derived.Test.YtbdkgpcdkalfdaaGreatNdJB
namespace Go.Nc
open Go.Proofs.Tryz
open Go.Proofs
set_option maxHeartbeats 8000000
mutual
theorem Dx(id:Nat)(ob:LObj):∀v:AV,gu [] v=true->frzC id ob v/\g0 id ob v=v
 |.fn g cs,h=>by
  have:=H2 id ob cs (by simpa[gu]using h);exact⟨by simpa[frzC]using this.1,by simp only[g0,this.2]⟩
 |.agg cs,h=>by
  have:=H2 id ob cs (by simpa[gu]using h);exact⟨by simpa[frzC]using this.1,by simp only[g0,this.2]⟩
 |.tup cs,h=>by
  have:=H2 id ob cs (by simpa[gu]using h);exact⟨by simpa[frzC]using this.1,by simp only[g0,this.2]⟩
 |.lptr ..,h|.osl ..,h|.osub ..,h|.optr ..,h|.mref ..,h|.yld ..,h=>by simp[gu]at h
 |.int ..,_|.bool ..,_|.str ..,_|.junk,_|.isl ..,_|.icap ..,_|.eptr ..,_|.ibox ..,_|.nils,_|.emp,_|.niface,_|.nfunc,_|.nptr,_|.nmap,_|.iface ..,_=>⟨by simp[frzC],rfl⟩
theorem H2(id:Nat)(ob:LObj):∀l:List AV,ka [] l=true->o7 id ob l/\nb id ob l=l
 |[],_=>⟨trivial,rfl⟩
 |c::cs,h=>by
  simp only[ka,Bool.and_eq_true]at h;have H:=Dx id ob c h.1;have a:=H2 id ob cs h.2;exact⟨⟨H.1,a.1⟩,by simp only[nb,H.2,a.2]⟩
end
def ff(n:Net)(F:Nat->Nat->Int)(i:Nat):List Int:=(List.range (n.lines.getD i default).classes.toNat).map (F i)
theorem iK(n:Net)(F:Nat->Nat->Int)(i:Nat):(ff n F i).length=(n.lines.getD i default).classes.toNat:=by simp[ff]
theorem lR(n:Net)(F:Nat->Nat->Int){i c:Nat}(h:c<(n.lines.getD i default).classes.toNat):(ff n F i).getD c 0=F i c:=bB h
def wa(n:Net)(F:Nat->Nat->Int)(j:Nat):Nat->List AV:=λi=>bif Nat.blt i j then cJ (ff n F i)else[.nils]
theorem xV{n:Net}{F:Nat->Nat->Int}{i j:Nat}(h:i<j):wa n F j i=cJ (ff n F i):=by
 unfold wa;rw[Nat.blt_eq.mpr h];rfl
theorem xW(ids:List Nat)(n:Net)(F:Nat->Nat->Int)(j i:Nat):ka ids (wa n F j i)=true:=by
 unfold wa;cases Nat.blt i j<;>rfl
def KZ(n:Net)(F:Nat->Nat->Int)(j:Nat):Nat->List AV:=λi=>bif Nat.beq i j then[.osl 25 (ff n F j).length]else wa n F j i
theorem we(n:Net)(F:Nat->Nat->Int)(j:Nat):wa n F j j=[.nils]:=by
 unfold wa;rw[show Nat.blt j j=false by cases hb:Nat.blt j j with |false=>rfl|true=>exact absurd (Nat.blt_eq.mp hb) (Nat.lt_irrefl _)];rfl
theorem Gx(n:Net)(F:Nat->Nat->Int)(j X:Nat):mg 0 (AV.osl 25 X).cellsL (wa n F j j)=[.osl 25 X]:=by rw[we];rfl
theorem Dy{n:Net}{F:Nat->Nat->Int}{j X i:Nat}(h:X=(ff n F j).length):(bif Nat.beq i j then mg 0 (AV.osl 25 X).cellsL (wa n F j j)else wa n F j i)=H1 (J4 []) (KZ n F j i):=by
 rw[ia,we,h];rfl
theorem Gy(n:Net)(F:Nat->Nat->Int)(j:Nat):KZ n F j j=[.osl 25 (ff n F j).length]:=by
 unfold KZ;rw[Nat.beq_refl];rfl
theorem zG{ids:List Nat}(h:ids.elem 25=true)(n:Net)(F:Nat->Nat->Int)(j i:Nat):ka ids (KZ n F j i)=true:=by
 unfold KZ;cases Nat.beq i j with
 |true=>show(ids.elem 25&&true)=true;rw[h];rfl
 |false=>exact xW ids n F j i
theorem Gz{i j:Nat}(h:Nat.beq i j=false):Nat.blt i (j+1)=Nat.blt i j:=by
 have H:i≠j:=λe=>by rw[e,Nat.beq_refl]at h;cases h
 cases h1:Nat.blt i j with
 |true=>exact Nat.blt_eq.mpr (by have:=Nat.blt_eq.mp h1;omega)
 |false=>
  cases h2:Nat.blt i (j+1)with
  |false=>rfl
  |true=>
   have:=Nat.blt_eq.mp h2;rw[Nat.blt_eq.mpr (Z:i<j)]at h1;cases h1
theorem Dz(n:Net)(F:Nat->Nat->Int)(j i:Nat):nb 25 (.arr (ff n F j).length 1 (λi=>[J ((ff n F j).getD i 0)]) 3) (KZ n F j i)=wa n F (j+1) i:=by
 unfold KZ;cases h:Nat.beq i j with
 |true=>
  have e:=Nat.eq_of_beq_eq_true h;subst e;rw[xV (n:=n) (F:=F) (i:=i) (j:=i+1) Z];rfl
 |false=>
  show nb 25 _ (wa n F j i)=_;unfold wa;rw[Gz h];cases Nat.blt i j<;>rfl
theorem IA(n:Net)(h:NetOk n)(f:FuncId)(cs:List AV)(d:ka [] cs=true)(F:Nat->Nat->Int)
  (g:∀i c:Nat,i<n.lines.length->(c:Int)<(n.lines.getD i default).classes->q0e f (J i::J c::cs) (J (F i c))) :
  ∃_:Unit,True/\bx 233 [n.av,.fn f cs] [] (.osl 12 n.lines.length) [(12,.arr n.lines.length 1 (λi=>cJ (ff n F i)) 22)]:=by
 have a:gu [] (AV.fn f cs)=true:=by unfold gu;exact d
 have k:=h.len;refine dp func233 ntmps233 results233 ?_ (hcl:=⟨rfl,by simp[ka,gu,d,Net.av,Net.cells,slc],by simp⟩) (hco:=λ_=>⟨rfl,bN (λi H=>rfl),rfl⟩);repeat'(first|refine' aj|fail)
 all_goals try exact bs
 refine ae (ι:={j:Nat//j<=n.lines.length}) [1,14,15] [] [] ⟨0,χ _⟩ (λ⟨j,_⟩=>n.lines.length-j) (λ⟨j,_⟩=>[(5,.osl 12 n.lines.length),(16,J j)]) (λ⟨j,_⟩=>[(12,some (.arr n.lines.length 1 (wa n F j) 22))]) ?_ ?_
 .refine⟨⟨rfl,rfl⟩,?_,?_⟩;all_goals((refine' subP)<;>first|exact bF _ _ a|exact Ξ (dm _).symm|exactλi H=>xW _ _ _ _ _|exact fl rfl λi H=>rfl|exact bt)
 .rintro⟨j,q⟩;conv=>whnf
  by_cases e:(j:Int)<n.lines.length
  .have hcl:=(h.line (n.lines.getD j default) (by rw[γ,υ Z];exact List.getElem_mem _)).cls;have E:n.lines.getD (j:Int).toNat default=n.lines.getD j default:=rfl;have b:=iK n F j;repeat'(first|(refine VCells.mk ⟨[.osl 25 (n.lines.getD (j:Int).toNat default).classes.toNat],by(dsimp only;rw[Nat.beq_refl];exact Gx _ _ _ _),?_⟩;conv=>whnf)|(refine U e λhb=>?_;conv=>whnf)|refine' aj|fail)
   all_goals try first|exact bs|(rw[E];omega)|(rw[E];unfold ah;omega)
   refine ae (ι:={c:Nat//c<=(ff n F j).length}) [1,6,14,15,16] [] [] ⟨0,χ _⟩ (λ⟨c,_⟩=>(ff n F j).length-c) (λ⟨c,_⟩=>[(5,.osl 12 n.lines.length),(31,J (ff n F j).length),(32,J c)]) (λ⟨c,_⟩=>[(12,some (.arr n.lines.length 1 (KZ n F j) 22)),(25,some (.arr (ff n F j).length 1 (dH (F j) c) 3))]) ?_ ?_
   .refine⟨⟨rfl,rfl⟩,?_,?_⟩;all_goals((refine' subP)<;>first|exact bF _ _ a|exact Ξ (dm _).symm|exactλi H=>zG rfl _ _ _ _|exact fl rfl (λi H=>Dy b.symm)|exact fl b.symm λi H=>rfl|exact Γ (by rw[b];rfl)|exact bt)
   .rintro⟨c,p⟩;conv=>whnf
    by_cases hcl:(c:Int)<(ff n F j).length
    .have P:=g j c Z Z;repeat'(first|(refine VCells.mk ⟨[.osl 25 (ff n F j).length],Gy _ _ _,?_⟩;conv=>whnf)|(refine U hcl λhb=>?_;conv=>whnf)|(refine' aO [] ⟨c+1,Z⟩<;>first|(first|exact bF _ _ a|exact Ξ (dm _).symm|exactλi H=>zG rfl _ _ _ _|exact fl rfl (λi H=>(ia _).symm)|exact fl rfl λi H=>aU rfl)|exact bt)|refine' aj|fail)
     all_goals try exact bs
    .have o:c=(ff n F j).length:=Z;have m:∀i,i<(ff n F j).length->dH (F j) c i=[J ((ff n F j).getD i 0)]:=λi H=>by rw[cn Z,lR n F Z]
     refine az [1,5,14,15,16,31,32] [] [] [] [(12,some (.arr n.lines.length 1 (KZ n F j) 22)),(25,some (.arr (ff n F j).length 1 (λi=>[J ((ff n F j).getD i 0)]) 3))] ⟨⟨rfl,rfl⟩,?_,?_⟩ ?_
     .skip;all_goals((refine' subP)<;>first|exactλi H=>zG rfl _ _ _ _|exact fl rfl (λi H=>(ia _).symm)|exact fl rfl m|exact bt)
     .skip;all_goals((refine' subP)<;>first|exact bF _ _ a|exact Ξ (dm _).symm|exact bt)
     conv=>whnf
     refine a7 25 rfl rfl (λ_ _=>rfl) ?_ ?_ ?_
     ·(repeat'(first|exact True.intro|refine And.intro ?_ ?_))<;>first|exact π _|exact(Dx 25 _ _ a).1
     .refine⟨λi H=>?_,λi H=>⟨trivial,trivial⟩,?_⟩
      .unfold KZ;exact oV ⟨π _,trivial⟩ λ_=>by
        unfold wa;cases Nat.blt i j<;>exact⟨trivial,trivial⟩
      .exact trivial
     conv=>whnf
     repeat'(first|(refine M hcl λhb=>?_;conv=>whnf)|(refine' aO [] ⟨j+1,Z⟩<;>first|(first|exact Ξ ((Dx 25 _ _ a).2.trans (dm _).symm)|exact bF _ _ a|exact Ξ (dm _).symm|exactλi H=>xW _ _ _ _ _|exact fl rfl (λi H=>(Dz n F j i).trans (ia _).symm))|exact bt)|refine' aj|fail)
     all_goals try exact bs
  .have l:j=n.lines.length:=Z;subst l;repeat'(first|(refine M e λhb=>?_;conv=>whnf)|refine' aj|fail)
   refine aW [4] [] [] [] [(12,some (.arr n.lines.length 1 (λi=>cJ (ff n F i)) 22))] ⟨⟨rfl,rfl⟩,?_,?_⟩ ?_
   .skip;all_goals((refine' subP)<;>first|exact fl rfl λi H=>xV Z|exact bt)
   .skip;all_goals exact bt
   conv=>whnf
   exact aK ⟨(),rfl,⟨rfl,trivial⟩,trivial⟩
def rp(n:Net)(F:Nat->Nat->Int):Xa:=(List.range n.lines.length).map (ff n F)
theorem iz(n:Net)(F:Nat->Nat->Int):(rp n F).length=n.lines.length:=by simp[rp]
theorem gF(n:Net)(F:Nat->Nat->Int){i:Nat}(h:i<n.lines.length):(rp n F).getD i []=ff n F i:=by
 simp[rp,h]
noncomputable def jZ(n:Net)(d:Xa)(i c:Nat):Int:=match gD n d i c with
 |.ok v=>v
 |.error _=>-1
theorem Bv(n:Net)(d:Xa)(h:NetOk n)(f:ShapeOk n d)(i c:Nat)(g:i<n.lines.length)(b:(c:Int)<(n.lines.getD i default).classes) :
  q0e 234 (J i::J c::[.ibox n.cells 0,.ibox [aF d] 0]) (J (jZ n d i c)):=by
 have a:0<=(i:Int)/\(i:Int)<n.lines.length:=Z;have p:=I9 n d h f i a c b;unfold jZ;rcases hx:gD n d i c with e|v
 .have H:=bn (vZ h f a b hx);rw[hx]at p;refine' db func234 ntmps234 results234
  all_goals first|exact absurd ‹_› H|exact Θ|omega|(exfalso;omega)
 .rw[hx]at p;refine' db func234 ntmps234 results234
  all_goals first|exact Θ|omega|(exfalso;omega)
noncomputable def fO(n:Net)(d:Xa):Xa:=rp n (jZ n d)
def K5:Except Int (Xa)->AV
 |.ok d=>.tup [aF d,J 0]
 |.error e=>.tup [.nils,J e]
theorem IB(n:Net)(d:Xa)(h:NetOk n)(a:ShapeOk n d):q0e 185 [n.av,aF d] (K5 (.ok (fO n d))):=by
 have f:=dA n d h a;obtain⟨_,_,P⟩:=IA n h 234 [.ibox n.cells 0,.ibox [aF d] 0] rfl (jZ n d) (λi c H b=>Bv n d h a i c H b);suffices e:∃y,y=Except.ok (fO n d)/\q0e 185 [n.av,aF d] (K5 y) by obtain⟨y,rfl,p⟩:=e;exact p
 refine dp func185 ntmps185 results185 ?_ (hco:=λx=>⟨by cases x<;>rfl,by simp,rfl⟩);repeat'(first|(refine az [] [2,3] [] [(2,.lptr 2 0),(3,.lptr 3 0)] [] ⟨⟨rfl,rfl⟩,bt,bt⟩ ?_;(conv=>whnf);(refine a7 2 rfl rfl rfl ?_ ?_ ?_;(solve|try refine' frzZ);(solve|try refine' frzZ));(conv=>whnf);(refine a7 3 rfl rfl rfl ?_ ?_ ?_;(solve|try refine' frzZ);(solve|try refine' frzZ));(conv=>whnf))|refine' aj|(refine jL P rfl ?_;conv=>whnf))
 all_goals try first|omega|(exfalso;omega)
 refine aW [4,5] [] [] [] [(12,some (.arr n.lines.length 1 (λi=>cJ ((fO n d).getD i [])) 22))] ⟨⟨rfl,rfl⟩,?_,?_⟩ (aX 12 rfl rfl (λ_ _=>rfl) ?_ ?_ (bO ?_))
 .skip;all_goals((refine' subP)<;>first|exact fl rfl λi H=>congrArg cJ (gF n (jZ n d) H).symm|exact bt)
 .skip;all_goals exact bt
 .all_goals try refine' frzZ
 .all_goals try refine' frzZ
 .conv=>whnf
  exact⟨.ok (fO n d),AvLe.tup (.cons (kd (iz n (jZ n d)).symm λi H=>rfl) (.cons Θ .nil)),rfl⟩
theorem G0{n:Net}{d:Xa}(h:NetOk n)(e:ShapeOk n d){L:Int}(c:0<=L/\L<n.lines.length){k:Nat}(f:(k:Int)<(n.lines.getD L.toNat default).classes){v:Int}(H:gD n d L k=.ok v):0<=v/\v<=400:=by
 have q:=(ui h e c f).dx;unfold gD at H;rcases hm:(iY n d L k).1 with E|⟨i,a,w⟩
 .rw[hm]at H;cases H
 .rw[hm]at H q;dsimp only at H;split at H
  .cases H
  .rename_i g;injection H with H;subst H;have Q:0<=a:=q;refine⟨Q,?_⟩;rcases Int.lt_or_le 400 a with b|b
   .exact absurd (.inr b) g
   .exact b
theorem zH{r:List Int}{v:Int}{c i:Nat}(a:r.length=c):(bif Nat.beq i c then[J v]else[J (r.getD i 0)])=[J ((r++[v]).getD i 0)]:=by
 subst a;by_cases e:i=r.length
 .subst e;rw[Nat.beq_refl];simp
 .rw[show Nat.beq i r.length=false from Bool.eq_false_iff.mpr λh=>e (Nat.eq_of_beq_eq_true h)];rcases ξ i r.length with H|H
  .simp[List.getElem?_append,H]
  .rw[γ,γ,List.getElem?_eq_none (Z:r.length<=i),List.getElem?_eq_none (show(r++[v]).length<=i by simp;omega)];rfl
def Bw(s:ByteArray):Prop:=WordP s
theorem ic(i:Nat):Bw (lv i):=rR i
theorem kv(i:Nat):Bw (dz i):=rT i
theorem jw:∀n,∀x∈bK n,Bw x
 |0,_,h=>by cases h
 |n+1,x,h=>by
  rcases List.mem_append.1 h with h|h
  .exact jw n x h
  .rw[List.mem_singleton.1 h];exact ic n
theorem jx:∀n,∀x∈jk n,Bw x
 |0,_,h=>by cases h
 |n+1,x,h=>by
  rcases List.mem_append.1 h with h|h
  .exact jx n x h
  .rw[List.mem_singleton.1 h];exact kv n
structure NamesOk(n:Net):Prop where
 names:∀x∈n.names,Bw x
 flows:∀f∈n.flows,Bw f.name
theorem D0(s:Rd)(L F:Int)(r:1<=L)(t:L<=4)(u:0<=F):NamesOk (s.net L F).1/\(s.net L F).1.lines.length<=L.toNat:=by
 obtain⟨k,d,E⟩:∃k d,s.range 1 2=(k,d):=⟨_,_,rfl⟩;obtain⟨c,S,j⟩:∃c S,d.range 1 L=(c,S):=⟨_,_,rfl⟩;obtain⟨l,g,m⟩:∃l g,Rd.lines k c.toNat S=(l,g):=⟨_,_,rfl⟩;obtain⟨e,a,n⟩:∃e a,g.range 0 F=(e,a):=⟨_,_,rfl⟩;have v:=cj E Z;have w:=cj j Z;have x:=cj n Z;have o:s.net L F=(⟨bK c.toNat,l,(Rd.flows c.toNat k e.toNat a).1⟩,(Rd.flows c.toNat k e.toNat a).2):=by
  simp only[Rd.net,E,j,m,n]
 rw[o];have b:=pi (k:=k) Z c.toNat S;have h:=Rd.lines_len k S c.toNat;rw[m]at b h;dsimp only at b h;have hcl:∀i:Nat,i<c.toNat->(l.getD i default).classes=k:=λi q=>(b _ (by simp[<-h,q])).2;have H:=pk h.symm Z Z Z hcl e.toNat a;refine⟨⟨jw _,λf p=>jx e.toNat _ ?_⟩,κ⟩;rw[<-H.2];exact List.mem_map.2 ⟨f,p,rfl⟩
theorem ValidF.valid{c:Curve}(h:ValidF c):c.valid=true:=by
 have f:=h.len;have k:=h.per;have d:=h.inc;obtain⟨r,g⟩:=x9 (l:=c.vals) (a:=0) (λi d=>(h.val i d).2) h.mono (λ_=>(h.val 0 Z).1);have b:c.vals≠[]:=λe=>by rw[e]at f;simp at f
 have H:=gm g b;have j:=h.val (c.vals.length-1) Z;unfold Curve.valid;rw[if_neg Z,g];dsimp only;rw[if_neg (by unfold cx;omega)];exact decide_eq_true (H▸h.last)
theorem fP(c:Curve)(h:ValidF c):∃b:Bool,b=true/\q0e 95 [c.av] (.bool b):=by
 obtain⟨b,hb,p⟩:=cV c;exact⟨b,hb.trans h.valid,p⟩
theorem bI(c:Curve)(h:ValidF c):∃b:Bool,b=true/\q0e 97 [c.av] (.bool b):=by
 have H:=h.len;have a:=h.val (c.vals.length-1) Z;obtain⟨b,hb,p⟩:=lw c h.valid;exact⟨b,hb.2 (by unfold cx;omega),p⟩
theorem wg(n:Net)(h:NetOk n)(A:NamesOk n)(i:Nat)(d:i<n.flows.length):∃e:Int,e=0/\q0e 82 [n.av,J i] (J e):=by
 obtain⟨f,E⟩:∃f,f=n.flows.getD i default:=⟨_,rfl⟩;have a:f∈n.flows:=by rw[E,γ,υ d];exact List.getElem_mem _
 have H:FlowOk n.lines f:=h.flow _ a;have x:=H.ne;have t:=h.flen;have v:=h.len;have p:=H.cls;have y:=H.sizes;have o:=H.zero;have l:=py H.valid H.fin;have z:=l.len;have C:q0e 80 [.str f.name] (.bool true):=zh (A.flows _ a);obtain⟨_,rfl,B⟩:=fP f.con l;obtain⟨_,rfl,P⟩:=bI f.con l;have b:∀j:Nat,j<i->¬(n.flows.getD (j:Int).toNat default).name=f.name:=λj u e=>by
  have r:(n.flows.map Flow.name).getD j .empty=(n.flows.getD j default).name:=by simp[(Z:j<n.flows.length)]
  have s:(n.flows.map Flow.name).getD i .empty=f.name:=by rw[E];simp[d]
  have:=tK h.fnodup (i:=j) (j:=i) (by simpa using(by omega:j<n.flows.length)) (by simpa using d) .empty (by rw[r,s];exact e);omega
 refine dp func82 ntmps82 results82 ?_;refine fg ?_;conv=>whnf
 refine fg ?_;conv=>whnf
 refine Side.mk ⟨Z,Z⟩ ?_;conv=>whnf
 refine az [1,2,5] [2] [] [] [(5,some (.box f.cells))] ⟨⟨rfl,rfl⟩,?_,?_⟩ ?_
 .skip;all_goals((refine' subP)<;>first|rw[E];exact cy|exact bt)
 .skip;all_goals exact bt
 conv=>whnf
 repeat'(first|refine' b7|refine ab C ?_)
 all_goals try exact bs
 refine ae (ι:={j:Nat//j<=i}) [1,2,5] [2,5] [] ⟨0,Z⟩ (λ⟨j,_⟩=>i-j) (λ⟨j,_⟩=>[(6,J j)]) (λ_=>[]) ?_ ?_
 .exact⟨⟨rfl,rfl⟩,bt,bt⟩
 .rintro⟨j,u⟩;conv=>whnf
  repeat'(first|(exact aI [] ⟨j+1,Z⟩)|refine' b7|fail)
  all_goals try exact bs
  all_goals try exact absurd ‹_› (b j Z)
  all_goals try exact⟨_,rfl,by exfalso;omega⟩
  all_goals try exact⟨_,rfl,absurd (oW _ _ (eq_of_beq ‹_›)) (b j Z)⟩
  refine ae (ι:={j:Nat//j<=f.route.length}) [2,5] [2,5] [] ⟨0,Z⟩ (λ⟨j,_⟩=>f.route.length-j) (λ⟨j,_⟩=>[(7,J j)]) (λ_=>[]) ?_ ?_
  .exact⟨⟨rfl,rfl⟩,bt,bt⟩
  .rintro⟨k,c⟩;conv=>whnf
   have q:k<f.route.length->0<=f.route.getD (k:Int).toNat 0/\f.route.getD (k:Int).toNat 0<n.lines.length:=λc=>H.lines _ (a9 (Z:(k:Int).toNat<f.route.length));have w:k<f.route.length->f.class_<(n.lines.getD (f.route.getD (k:Int).toNat 0).toNat default).classes:=λc=>H.cls2 _ (a9 (Z:(k:Int).toNat<f.route.length));have g:∀m:Nat,m<k->k<f.route.length->¬f.route.getD (m:Int).toNat 0=f.route.getD (k:Int).toNat 0:=λm q c e=>by
    have:=tK H.nodup (i:=m) (j:=k) Z c 0 e;omega
   have D:f.con.vals.getD ((0:Int)).toNat 0=0:=o;repeat'(first|(exact aI [] ⟨k+1,Z⟩)|refine' b7|refine ab B ?_|refine ab P ?_)
   all_goals try exact bs
   all_goals try exact⟨0,rfl,rfl⟩
   all_goals try exact⟨_,rfl,by exfalso;omega⟩
   refine ae (ι:={m:Nat//m<=k}) [2,5,7,8] [2,5] [] ⟨0,Z⟩ (λ⟨m,_⟩=>k-m) (λ⟨m,_⟩=>[(9,J m)]) (λ_=>[]) ?_ ?_
   .exact⟨⟨rfl,rfl⟩,bt,bt⟩
   .rintro⟨m,q⟩;conv=>whnf
    repeat'(first|(exact aI [] ⟨m+1,Z⟩)|(exact aI [] ⟨k+1,Z⟩)|refine' b7|fail)
    all_goals try exact bs
    all_goals try exact⟨_,rfl,by exfalso;omega⟩
    all_goals try exact⟨_,rfl,by exfalso;exact g m Z Z ‹_›⟩
theorem fQ(n:Net)(h:NetOk n)(d:NamesOk n):∃e:Int,e=0/\q0e 48 [n.av] (J e):=by
 have k:=h.flen;have l:=h.len;have o:=h.nlen;have f:∀i:Nat,i<n.lines.length->LineOk (n.lines.getD i default):=λi c=>h.line _ (by simp[c]);have g:∀i:Nat,i<n.lines.length->q0e 80 [.str (n.names.getD i .empty)] (.bool true):=λi c=>zh (d.names _ (by simp[(Z:i<n.names.length)]));refine dp func48 ntmps48 results48 ?_;repeat'(first|refine' b7|fail)
 all_goals try first|exact bs|exact⟨_,rfl,by exfalso;omega⟩
 refine ae (ι:={i:Nat//i<=n.lines.length}) [1] [1] [] ⟨0,Z⟩ (λ⟨i,_⟩=>n.lines.length-i) (λ⟨i,_⟩=>[(3,J i)]) (λ_=>[]) ?_ ?_
 .exact⟨⟨rfl,rfl⟩,bt,bt⟩
 .rintro⟨i,c⟩;conv=>whnf
  by_cases a:(i:Int)<n.lines.length
  .have p:=g i Z;obtain⟨_,rfl,P⟩:=lx _ (f i Z);repeat'(first|(refine U a λhb=>?_;conv=>whnf)|refine' b7|refine ab p ?_)
   all_goals try exact bs
   refine ae (ι:={m:Nat//m<=i}) [1,3] [1] [] ⟨0,Z⟩ (λ⟨m,_⟩=>i-m) (λ⟨m,_⟩=>[(4,J m)]) (λ_=>[]) ?_ ?_
   .exact⟨⟨rfl,rfl⟩,bt,bt⟩
   .rintro⟨m,r⟩;conv=>whnf
    by_cases b:(m:Int)<i
    .skip;repeat'(first|(refine U b λhb=>?_;conv=>whnf)|(exact aI [] ⟨m+1,Z⟩)|refine' b7|fail)
     all_goals try exact bs
     all_goals exact ⟨_,rfl,by
      exfalso;have:=tK h.nodup (i:=(m:Int).toNat) (j:=(i:Int).toNat) Z Z .empty (oW _ _ (eq_of_beq ‹_›));omega⟩
    .skip;repeat'(first|(refine M b λhb=>?_;conv=>whnf)|(exact aI [] ⟨i+1,Z⟩)|refine' b7|refine ab P ?_)
     all_goals try exact bs
  .skip;repeat'(first|(refine M a λhb=>?_;conv=>whnf)|refine' aj|fail)
   all_goals try exact bs
   refine ae (ι:={i:Nat//i<=n.flows.length}) [1] [1] [] ⟨0,Z⟩ (λ⟨i,_⟩=>n.flows.length-i) (λ⟨i,_⟩=>[(6,J i)]) (λ_=>[]) ?_ ?_
   .exact⟨⟨rfl,rfl⟩,bt,bt⟩
   .rintro⟨i,c⟩;conv=>whnf
    by_cases H:(i:Int)<n.flows.length
    .obtain⟨_,rfl,q⟩:=wg n h d i Z;repeat'(first|(refine U H λhb=>?_;conv=>whnf)|(exact aI [] ⟨i+1,Z⟩)|refine' b7|refine ab q ?_)
     all_goals try exact bs
    .skip;repeat'(first|(refine M H λhb=>?_;conv=>whnf)|refine' b7|fail)
     all_goals first|exact⟨0,rfl,rfl⟩|exact bs
end Go.Nc