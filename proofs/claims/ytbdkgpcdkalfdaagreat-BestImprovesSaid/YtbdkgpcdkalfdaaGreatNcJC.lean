/- Parts. -/
import Derived.Test.YtbdkgpcdkalfdaaGreatNcJB
namespace Go.Nc
open Go.Proofs.Tryz
open Go.Proofs
set_option maxHeartbeats 8000000
mutual
theorem CC(id:Nat)(ob:LObj):∀v:AV,nmV [] v=true->frzC id ob v/\frzV id ob v=v
 |.fn g cs,h=>by
  have:=frzL_nm id ob cs (by simpa[nmV]using h);exact⟨by simpa[frzC]using this.1,by simp only[frzV,this.2]⟩
 |.agg cs,h=>by
  have:=frzL_nm id ob cs (by simpa[nmV]using h);exact⟨by simpa[frzC]using this.1,by simp only[frzV,this.2]⟩
 |.tup cs,h=>by
  have:=frzL_nm id ob cs (by simpa[nmV]using h);exact⟨by simpa[frzC]using this.1,by simp only[frzV,this.2]⟩
 |.lptr ..,h|.osl ..,h|.osub ..,h|.optr ..,h|.mref ..,h|.yld ..,h=>by simp[nmV]at h
 |.int ..,_|.bool ..,_|.str ..,_|.junk,_|.isl ..,_|.icap ..,_|.eptr ..,_|.ibox ..,_|.nils,_|.emp,_|.niface,_|.nfunc,_|.nptr,_|.nmap,_|.iface ..,_=>⟨by simp[frzC],rfl⟩
theorem frzL_nm(id:Nat)(ob:LObj):∀l:List AV,nmL [] l=true->frzCL id ob l/\frzL id ob l=l
 |[],_=>⟨trivial,rfl⟩
 |c::cs,h=>by
  simp only[nmL,Bool.and_eq_true]at h;have h1:=CC id ob c h.1;have h2:=frzL_nm id ob cs h.2;exact⟨⟨h1.1,h2.1⟩,by simp only[frzL,h1.2,h2.2]⟩
end
def rowF(n:Net)(F:Nat->Nat->Int)(i:Nat):List Int:=(List.range (n.lines.getD i default).classes.toNat).map (F i)
theorem kY(n:Net)(F:Nat->Nat->Int)(i:Nat):(rowF n F i).length=(n.lines.getD i default).classes.toNat:=by simp[rowF]
theorem nu(n:Net)(F:Nat->Nat->Int){i c:Nat}(h:c<(n.lines.getD i default).classes.toNat):(rowF n F i).getD c 0=F i c:=bD h
def outG(n:Net)(F:Nat->Nat->Int)(j:Nat):Nat->List AV:=λi=>bif Nat.blt i j then c8 (rowF n F i)else[.nils]
theorem xo{n:Net}{F:Nat->Nat->Int}{i j:Nat}(h:i<j):outG n F j i=c8 (rowF n F i):=by
 unfold outG;rw[Nat.blt_eq.mpr h];rfl
theorem xp(ids:List Nat)(n:Net)(F:Nat->Nat->Int)(j i:Nat):nmL ids (outG n F j i)=true:=by
 unfold outG;cases Nat.blt i j<;>rfl
def inG(n:Net)(F:Nat->Nat->Int)(j:Nat):Nat->List AV:=λi=>bif Nat.beq i j then[.osl 25 (rowF n F j).length]else outG n F j i
theorem vk(n:Net)(F:Nat->Nat->Int)(j:Nat):outG n F j j=[.nils]:=by
 unfold outG;rw[show Nat.blt j j=false by cases hb:Nat.blt j j with |false=>rfl|true=>exact absurd (Nat.blt_eq.mp hb) (Nat.lt_irrefl _)];rfl
theorem Ft(n:Net)(F:Nat->Nat->Int)(j X:Nat):spl 0 (AV.osl 25 X).cellsL (outG n F j j)=[.osl 25 X]:=by rw[vk];rfl
theorem CD{n:Net}{F:Nat->Nat->Int}{j X i:Nat}(hX:X=(rowF n F j).length):(bif Nat.beq i j then spl 0 (AV.osl 25 X).cellsL (outG n F j j)else outG n F j i)=reL (luN []) (inG n F j i):=by
 rw[reL_id,vk,hX];rfl
theorem Fu(n:Net)(F:Nat->Nat->Int)(j:Nat):inG n F j j=[.osl 25 (rowF n F j).length]:=by
 unfold inG;rw[Nat.beq_refl];rfl
theorem yL{ids:List Nat}(h:ids.elem 25=true)(n:Net)(F:Nat->Nat->Int)(j i:Nat):nmL ids (inG n F j i)=true:=by
 unfold inG;cases Nat.beq i j with
 |true=>show(ids.elem 25&&true)=true;rw[h];rfl
 |false=>exact xp ids n F j i
theorem Fv{i j:Nat}(h:Nat.beq i j=false):Nat.blt i (j+1)=Nat.blt i j:=by
 have hne:i≠j:=λe=>by rw[e,Nat.beq_refl]at h;cases h
 cases h1:Nat.blt i j with
 |true=>exact Nat.blt_eq.mpr (by have:=Nat.blt_eq.mp h1;omega)
 |false=>
  cases h2:Nat.blt i (j+1)with
  |false=>rfl
  |true=>
   have:=Nat.blt_eq.mp h2;rw[Nat.blt_eq.mpr (ω:i<j)]at h1;cases h1
theorem CE(n:Net)(F:Nat->Nat->Int)(j i:Nat):frzL 25 (.arr (rowF n F j).length 1 (λi=>[J ((rowF n F j).getD i 0)]) 3) (inG n F j i)=outG n F (j+1) i:=by
 unfold inG;cases h:Nat.beq i j with
 |true=>
  have e:=Nat.eq_of_beq_eq_true h;subst e;rw[xo (n:=n) (F:=F) (i:=i) (j:=i+1) ω];rfl
 |false=>
  show frzL 25 _ (outG n F j i)=_;unfold outG;rw[Fv h];cases Nat.blt i j<;>rfl
theorem Hs(n:Net)(h:NetOk n)(fid:FuncId)(cs:List AV)(hcs:nmL [] cs=true)(F:Nat->Nat->Int)
  (hat:∀i c:Nat,i<n.lines.length->(c:Int)<(n.lines.getD i default).classes->q0d fid (J i::J c::cs) (J (F i c))) :
  ∃_:Unit,True/\q0c 233 [n.av,.fn fid cs] [] (.osl 12 n.lines.length) [(12,.arr n.lines.length 1 (λi=>c8 (rowF n F i)) 22)]:=by
 have hcv:nmV [] (AV.fn fid cs)=true:=by unfold nmV;exact hcs
 have hlen:=h.len;refine opE func233 ntmps233 results233 ?_ (hcl:=⟨rfl,by simp[nmL,nmV,hcs,Net.av,Net.cells,slc],by simp⟩) (hco:=λ_=>⟨rfl,bt (λi hi=>rfl),rfl⟩);repeat'(first|refine' ah|fail)
 all_goals try exact ariA
 refine ag (ι:={j:Nat//j<=n.lines.length}) [1,14,15] [] [] ⟨0,π _⟩ (λ⟨j,_⟩=>n.lines.length-j) (λ⟨j,_⟩=>[(5,.osl 12 n.lines.length),(16,J j)]) (λ⟨j,_⟩=>[(12,some (.arr n.lines.length 1 (outG n F j) 22))]) ?_ ?_
 ·refine⟨⟨rfl,rfl⟩,?_,?_⟩;all_goals((refine' subP)<;>first|exact bu _ _ hcv|exact Θ (c7 _).symm|exactλi hi=>xp _ _ _ _ _|exact q0b rfl λi hi=>rfl|exact sq1)
 ·rintro⟨j,hj⟩;conv=>whnf
  by_cases hjl:(j:Int)<n.lines.length
  ·have hcl:=(h.line (n.lines.getD j default) (by rw[ψ,β ω];exact List.getElem_mem _)).cls;have er:n.lines.getD (j:Int).toNat default=n.lines.getD j default:=rfl;have hrl:=kY n F j;repeat'(first|(refine VCells.mk ⟨[.osl 25 (n.lines.getD (j:Int).toNat default).classes.toNat],by(dsimp only;rw[Nat.beq_refl];exact Ft _ _ _ _),?_⟩;conv=>whnf)|(refine Λ hjl λhb=>?_;conv=>whnf)|refine' ah|fail)
   all_goals try first|exact ariA|(rw[er];omega)|(rw[er];unfold aj;omega)
   refine ag (ι:={c:Nat//c<=(rowF n F j).length}) [1,6,14,15,16] [] [] ⟨0,π _⟩ (λ⟨c,_⟩=>(rowF n F j).length-c) (λ⟨c,_⟩=>[(5,.osl 12 n.lines.length),(31,J (rowF n F j).length),(32,J c)]) (λ⟨c,_⟩=>[(12,some (.arr n.lines.length 1 (inG n F j) 22)),(25,some (.arr (rowF n F j).length 1 (dk (F j) c) 3))]) ?_ ?_
   ·refine⟨⟨rfl,rfl⟩,?_,?_⟩;all_goals((refine' subP)<;>first|exact bu _ _ hcv|exact Θ (c7 _).symm|exactλi hi=>yL rfl _ _ _ _|exact q0b rfl (λi hi=>CD hrl.symm)|exact q0b hrl.symm λi hi=>rfl|exact Ξ (by rw[hrl];rfl)|exact sq1)
   ·rintro⟨c,hc⟩;conv=>whnf
    by_cases hcl:(c:Int)<(rowF n F j).length
    ·have p1:=hat j c ω ω;repeat'(first|(refine VCells.mk ⟨[.osl 25 (rowF n F j).length],Fu _ _ _,?_⟩;conv=>whnf)|(refine Λ hcl λhb=>?_;conv=>whnf)|(refine' aR [] ⟨c+1,ω⟩<;>first|(first|exact bu _ _ hcv|exact Θ (c7 _).symm|exactλi hi=>yL rfl _ _ _ _|exact q0b rfl (λi hi=>(reL_id _).symm)|exact q0b rfl λi hi=>aK rfl)|exact sq1)|refine' ah|refine ab p1 ?_)
     all_goals try exact ariA
    ·have ec:c=(rowF n F j).length:=ω;have hg:∀i,i<(rowF n F j).length->dk (F j) c i=[J ((rowF n F j).getD i 0)]:=λi hi=>by rw[bE ω,nu n F ω]
     refine ao [1,5,14,15,16,31,32] [] [] [] [(12,some (.arr n.lines.length 1 (inG n F j) 22)),(25,some (.arr (rowF n F j).length 1 (λi=>[J ((rowF n F j).getD i 0)]) 3))] ⟨⟨rfl,rfl⟩,?_,?_⟩ ?_
     ·skip;all_goals((refine' subP)<;>first|exactλi hi=>yL rfl _ _ _ _|exact q0b rfl (λi hi=>(reL_id _).symm)|exact q0b rfl hg|exact sq1)
     ·skip;all_goals((refine' subP)<;>first|exact bu _ _ hcv|exact Θ (c7 _).symm|exact sq1)
     conv=>whnf
     refine ar 25 rfl rfl (λ_ _=>rfl) ?_ ?_ ?_
     ·(repeat'(first|exact True.intro|refine And.intro ?_ ?_))<;>first|exact ξ _|exact(CC 25 _ _ hcv).1
     ·refine⟨λi hi=>?_,λi hi=>⟨trivial,trivial⟩,?_⟩
      ·unfold inG;exact uq ⟨ξ _,trivial⟩ λ_=>by
        unfold outG;cases Nat.blt i j<;>exact⟨trivial,trivial⟩
      ·exact trivial
     conv=>whnf
     repeat'(first|(refine Υ hcl λhb=>?_;conv=>whnf)|(refine' aR [] ⟨j+1,ω⟩<;>first|(first|exact Θ ((CC 25 _ _ hcv).2.trans (c7 _).symm)|exact bu _ _ hcv|exact Θ (c7 _).symm|exactλi hi=>xp _ _ _ _ _|exact q0b rfl (λi hi=>(CE n F j i).trans (reL_id _).symm))|exact sq1)|refine' ah|fail)
     all_goals try exact ariA
  ·have ej:j=n.lines.length:=ω;subst ej;repeat'(first|(refine Υ hjl λhb=>?_;conv=>whnf)|refine' ah|fail)
   refine bL [4] [] [] [] [(12,some (.arr n.lines.length 1 (λi=>c8 (rowF n F i)) 22))] ⟨⟨rfl,rfl⟩,?_,?_⟩ ?_
   ·skip;all_goals((refine' subP)<;>first|exact q0b rfl λi hi=>xo ω|exact sq1)
   ·skip;all_goals exact sq1
   conv=>whnf
   exact aG ⟨(),rfl,⟨rfl,trivial⟩,trivial⟩
def pZ(n:Net)(F:Nat->Nat->Int):List (List Int):=(List.range n.lines.length).map (rowF n F)
theorem jg(n:Net)(F:Nat->Nat->Int):(pZ n F).length=n.lines.length:=by simp[pZ]
theorem ig(n:Net)(F:Nat->Nat->Int){i:Nat}(h:i<n.lines.length):(pZ n F).getD i []=rowF n F i:=by
 simp[pZ,h]
noncomputable def jB(n:Net)(d:List (List Int))(i c:Nat):Int:=match fR n d i c with
 |.ok v=>v
 |.error _=>-1
theorem A1(n:Net)(d:List (List Int))(h:NetOk n)(hd:ShapeOk n d)(i c:Nat)(hi:i<n.lines.length)(hc:(c:Int)<(n.lines.getD i default).classes) :
  q0d 234 (J i::J c::[.ibox n.cells 0,.ibox [aH d] 0]) (J (jB n d i c)):=by
 have hL:0<=(i:Int)/\(i:Int)<n.lines.length:=ω;have p1:=Hr n d h hd i hL c hc;unfold jB;rcases hx:fR n d i c with e|v
 ·have hne:=b8 (vj h hd hL hc hx);rw[hx]at p1;refine opG func234 ntmps234 results234 λ_ _ _=>?_;repeat'(first|refine' ak|refine ab p1 ?_)
  all_goals first|exact absurd ‹_› hne|exact Ψ|omega|(exfalso;omega)
 ·rw[hx]at p1;refine opG func234 ntmps234 results234 λ_ _ _=>?_;repeat'(first|refine' ak|refine ab p1 ?_)
  all_goals first|exact Ψ|omega|(exfalso;omega)
noncomputable def dS(n:Net)(d:List (List Int)):List (List Int):=pZ n (jB n d)
def delR:Except Int (List (List Int))->AV
 |.ok d=>.tup [aH d,J 0]
 |.error e=>.tup [.nils,J e]
theorem Ht(n:Net)(d:List (List Int))(h:NetOk n)(hd:ShapeOk n d):q0d 185 [n.av,aH d] (delR (.ok (dS n d))):=by
 have p0:=cK n d h hd;obtain⟨_,_,p1⟩:=Hs n h 234 [.ibox n.cells 0,.ibox [aH d] 0] rfl (jB n d) (λi c hi hc=>A1 n d h hd i c hi hc);suffices hh:∃y,y=Except.ok (dS n d)/\q0d 185 [n.av,aH d] (delR y) by obtain⟨y,rfl,p⟩:=hh;exact p
 refine opE func185 ntmps185 results185 ?_ (hcl:=⟨rfl,rfl,by simp⟩) (hco:=λx=>⟨by cases x<;>rfl,by simp,rfl⟩);repeat'(first|(refine ao [] [2,3] [] [(2,.lptr 2 0),(3,.lptr 3 0)] [] ⟨⟨rfl,rfl⟩,sq1,sq1⟩ ?_;(conv=>whnf);(refine ar 2 rfl rfl rfl ?_ ?_ ?_;(solve|try refine' frzZ);(solve|try refine' frzZ));(conv=>whnf);(refine ar 3 rfl rfl rfl ?_ ?_ ?_;(solve|try refine' frzZ);(solve|try refine' frzZ));(conv=>whnf))|refine' ah|refine ab p0 ?_|(refine iy p1 rfl ?_;conv=>whnf))
 all_goals try first|omega|(exfalso;omega)
 refine bL [4,5] [] [] [] [(12,some (.arr n.lines.length 1 (λi=>c8 ((dS n d).getD i [])) 22))] ⟨⟨rfl,rfl⟩,?_,?_⟩ (bJ 12 rfl rfl (λ_ _=>rfl) ?_ ?_ (cY ?_))
 ·skip;all_goals((refine' subP)<;>first|exact q0b rfl λi hi=>congrArg c8 (ig n (jB n d) hi).symm|exact sq1)
 ·skip;all_goals exact sq1
 ·all_goals try refine' frzZ
 ·all_goals try refine' frzZ
 ·conv=>whnf
  exact⟨.ok (dS n d),AvLe.tup (.cons (Γ (jg n (jB n d)).symm λi hi=>rfl) (.cons Ψ .nil)),rfl⟩
structure Ord(N:Nat)(E:Nat->Nat->Bool)(l:List Nat):Prop where
 nodup:l.Nodup
 lt:∀x∈l,x<N
 topo:∀p b q,l=p++b::q->∀a,a<N->E a b=true->a∈p
theorem Ord.nil{N:Nat}{E:Nat->Nat->Bool}:Ord N E []:=⟨List.nodup_nil,λx hx=>(by cases hx),λp b q h=>(by cases p<;>cases h)⟩
theorem Fw{n:Net}{d:List (List Int)}(h:NetOk n)(hd:ShapeOk n d){L:Int}(hL:0<=L/\L<n.lines.length){k:Nat}(hk:(k:Int)<(n.lines.getD L.toNat default).classes){v:Int}(he:fR n d L k=.ok v):0<=v/\v<=400:=by
 have q:=(sX h hd hL hk).dx;unfold fR at he;rcases hm:(iJ n d L k).1 with e'|⟨i,a,w⟩
 ·rw[hm]at he;cases he
 ·rw[hm]at he q;dsimp only at he;split at he
  ·cases he
  ·rename_i hn;injection he with he;subst he;have q':0<=a:=q;refine⟨q',?_⟩;rcases Int.lt_or_le 400 a with h1|h1
   ·exact absurd (.inr h1) hn
   ·exact h1
def LeastF(N:Nat)(E:Nat->Nat->Bool)(o:List Nat)(r:Nat):Prop:=(r<N/\r∉o/\∀a,a<N->E a r=true->a∈o)/\∀b,b<r->b∈o\/∃a,a<N/\a∉o/\E a b=true
def OrdC(N:Nat)(E:Nat->Nat->Bool)(l:List Nat):Prop:=∀i,i<l.length->LeastF N E (l.take i) (l.getD i 0)
theorem OrdC.nil{N:Nat}{E:Nat->Nat->Bool}:OrdC N E []:=ν
def cntL(y:Nat):List (Nat×Nat)->Int
 |[]=>0
 |p::r=>(if p.2=y then 1 else 0)+cntL y r
def inSum(E:Nat->Nat->Bool)(y:Nat):Nat->Int:=bsum λx=>if E x y=true then 1 else 0
structure EdgL(N:Nat)(E:Nat->Nat->Bool)(a b:Nat)(l:List (Nat×Nat)):Prop where
 len:l.length<=N*a+b
 lt:∀p∈l,p.1<N/\p.2<N
 cnt:∀y,y<N->cntL y l=inSum E y a+(if y<b/\E a y=true then 1 else 0)
theorem EdgL.nil{N:Nat}{E:Nat -> Nat -> Bool}:EdgL N E 0 0 []:=⟨π _,fun p hp=>(by cases hp),fun y hy=>by
 show(0:Int)=0+_;rw[if_neg (λh=>absurd h.1 (Nat.not_lt_zero y))];rfl⟩
theorem EdgL.row{N:Nat}{E:Nat->Nat->Bool}{a:Nat}{l:List (Nat×Nat)}(h:EdgL N E a N l):EdgL N E (a+1) 0 l:=by
 refine⟨by have:=h.len;rw[Nat.mul_succ];omega,h.lt,λy hy=>?_⟩;rw[h.cnt y hy];show _=inSum E y a+(if E a y=true then 1 else 0)+_;simp only[hy,true_and,Nat.not_lt_zero,false_and,if_false];omega
def A2(s:ByteArray):Prop:=WordP s
theorem gJ(i:Nat):A2 (ky i):=qD i
theorem jH(i:Nat):A2 (cT i):=qE i
theorem jh:∀n,∀x∈bA n,A2 x
 |0,_,h=>by cases h
 |n+1,x,h=>by
  rcases List.mem_append.1 h with h|h
  ·exact jh n x h
  ·rw[List.mem_singleton.1 h];exact gJ n
theorem ji:∀n,∀x∈iW n,A2 x
 |0,_,h=>by cases h
 |n+1,x,h=>by
  rcases List.mem_append.1 h with h|h
  ·exact ji n x h
  ·rw[List.mem_singleton.1 h];exact jH n
structure NamesOk(n:Net):Prop where
 names:∀x∈n.names,A2 x
 flows:∀f∈n.flows,A2 f.name
theorem CF(s:Rd)(lines flows:Int)(h0:1<=lines)(h1:lines<=4)(h2:0<=flows):NamesOk (s.net lines flows).1/\(s.net lines flows).1.lines.length<=lines.toNat:=by
 obtain⟨k,s1,e1⟩:∃k s1,s.range 1 2=(k,s1):=⟨_,_,rfl⟩;obtain⟨c,s2,e2⟩:∃c s2,s1.range 1 lines=(c,s2):=⟨_,_,rfl⟩;obtain⟨l,s3,e3⟩:∃l s3,Rd.lines k c.toNat s2=(l,s3):=⟨_,_,rfl⟩;obtain⟨e,s4,e4⟩:∃e s4,s3.range 0 flows=(e,s4):=⟨_,_,rfl⟩;have m1:=bP e1 ω;have m2:=bP e2 ω;have m4:=bP e4 ω;have er:s.net lines flows=(⟨bA c.toNat,l,(Rd.flows c.toNat k e.toNat s4).1⟩,(Rd.flows c.toNat k e.toNat s4).2):=by
  simp only[Rd.net,e1,e2,e3,e4]
 rw[er];have hl:=oa (k:=k) ω c.toNat s2;have hn:=Rd.lines_len k s2 c.toNat;rw[e3]at hl hn;dsimp only at hl hn;have hcl:∀i:Nat,i<c.toNat->(l.getD i default).classes=k:=λi hi=>(hl _ (by simp[<-hn,hi])).2;have hfl:=oc hn.symm ω ω ω hcl e.toNat s4;refine⟨⟨jh _,λf hf=>ji e.toNat _ ?_⟩,κ⟩;rw[<-hfl.2];exact List.mem_map.2 ⟨f,hf,rfl⟩
theorem f9(c:Curve)(h:ValidF c):∃b:Bool,b=true/\q0d 95 [c.av] (.bool b):=by
 have hl:=h.len;have hpp:=h.per;have hi:=h.inc;have hlast:=h.last;have ell:((c.vals.length:Int)-1).toNat=c.vals.length-1:=ω;have b2:=h.val (c.vals.length-1) ω;have b3:=h.val ((c.vals.length:Int)-c.per).toNat ω;rw[<-ell]at hlast b2;refine opE func95 ntmps95 results95 ?_;repeat'(first|refine' bR|fail)
 all_goals try exact ariA
 all_goals try exact⟨false,rfl,by exfalso;omega⟩
 refine ag (ι:={i:Nat//i<=c.vals.length}) [1,3] [1] [] ⟨0,ω⟩ (λ⟨i,_⟩=>c.vals.length-i) (λ⟨i,_⟩=>[(4,J i)]) (λ_=>[]) ?_ ?_
 ·exact⟨⟨rfl,rfl⟩,sq1,sq1⟩
 ·rintro⟨i,hi1⟩;conv=>whnf
  have b1:i<c.vals.length->0<=c.vals.getD (i:Int).toNat 0/\c.vals.getD (i:Int).toNat 0<=1073741824:=λhi=>h.val _ ω;have m1:i<c.vals.length->0<i->c.vals.getD ((i:Int)-1).toNat 0<=c.vals.getD (i:Int).toNat 0:=λhi h0=>by
   have:=h.mono (i-1) ω;rw[(ω:i-1+1=i)]at this;rw[(ω:((i:Int)-1).toNat=i-1),(ω:((i:Int)).toNat=i)];exact this
  repeat'(first|(exact aN [] ⟨i+1,ω⟩)|refine' bR|fail)
  all_goals try first|exact ariA|exact⟨false,rfl,by exfalso;omega⟩
  all_goals exact⟨_,rfl,decide_eq_true ω⟩
theorem bW(c:Curve)(h:ValidF c):∃b:Bool,b=true/\q0d 97 [c.av] (.bool b):=by
 have hl:=h.len;obtain⟨_,rfl,p1⟩:=f9 c h;have ell:((c.vals.length:Int)-1).toNat=c.vals.length-1:=ω;have b2:=h.val (c.vals.length-1) ω;rw[<-ell]at b2;refine opE func97 ntmps97 results97 ?_;repeat'(first|refine' bR|refine ab p1 ?_)
 all_goals try exact ariB
 all_goals first|exact⟨true,rfl,rfl⟩|exact⟨_,rfl,by rw[decide_eq_false ω];rfl⟩
theorem fA(n:Net)(h:NetOk n)(_:NamesOk n):∃e:Int,e=0/\q0d 48 [n.av] (J e):=⟨_,(gW n).2 h,nW n⟩
theorem NetOk.names{n:Net}(h:NetOk n):NamesOk n:=⟨h.word,h.fword⟩
end Go.Nc