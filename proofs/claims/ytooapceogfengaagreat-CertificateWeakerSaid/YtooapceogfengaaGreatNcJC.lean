/- Parts. -/
import Derived.Test.YtooapceogfengaaGreatNcJB
namespace Go.Nc
open Go.Proofs.Tryz
open Go.Proofs
set_option maxHeartbeats 8000000
mutual
theorem Cl(id:Nat)(ob:LObj):∀v:AV,nmV [] v=true->frzC id ob v/\frzV id ob v=v
 |.fn g cs,h=>by
  have:=frzL_nm id ob cs (by simpa[nmV]using h);exact⟨by simpa[frzC]using this.1,by simp only[frzV,this.2]⟩
 |.agg cs,h=>by
  have:=frzL_nm id ob cs (by simpa[nmV]using h);exact⟨by simpa[frzC]using this.1,by simp only[frzV,this.2]⟩
 |.tup cs,h=>by
  have:=frzL_nm id ob cs (by simpa[nmV]using h);exact⟨by simpa[frzC]using this.1,by simp only[frzV,this.2]⟩
 |.lptr ..,h|.osl ..,h|.osub ..,h|.optr ..,h|.mref ..,h|.yld ..,h=>by simp[nmV]at h
 |.int ..,_|.bool ..,_|.str ..,_|.junk,_|.isl ..,_|.icap ..,_|.eptr ..,_|.ibox ..,_|.nils,_|.emp,_|.niface,_|.nfunc,_|.nptr,_|.nmap,_|.iface ..,_=>⟨by simp[frzC],rfl⟩
theorem frzL_nm(id:Nat)(ob:LObj):∀l:List AV,nmL [] l=true->frzCL id ob l/\frzL id ob l=l
 |[],_=>⟨trivial,rfl⟩
 |c::cs,h=>by
  simp only[nmL,Bool.and_eq_true]at h;have h1:=Cl id ob c h.1;have h2:=frzL_nm id ob cs h.2;exact⟨⟨h1.1,h2.1⟩,by simp only[frzL,h1.2,h2.2]⟩
end
def rowF(n:Net)(F:Nat->Nat->Int)(i:Nat):List Int:=(List.range (n.lines.getD i default).classes.toNat).map (F i)
theorem lm(n:Net)(F:Nat->Nat->Int)(i:Nat):(rowF n F i).length=(n.lines.getD i default).classes.toNat:=by simp[rowF]
theorem lp(n:Net)(F:Nat->Nat->Int){i c:Nat}(h:c<(n.lines.getD i default).classes.toNat):(rowF n F i).getD c 0=F i c:=bG h
def outG(n:Net)(F:Nat->Nat->Int)(j:Nat):Nat->List AV:=λi=>bif Nat.blt i j then dh (rowF n F i)else[.nils]
theorem wM{n:Net}{F:Nat->Nat->Int}{i j:Nat}(h:i<j):outG n F j i=dh (rowF n F i):=by
 unfold outG;rw[Nat.blt_eq.mpr h];rfl
theorem wN(ids:List Nat)(n:Net)(F:Nat->Nat->Int)(j i:Nat):nmL ids (outG n F j i)=true:=by
 unfold outG;cases Nat.blt i j<;>rfl
def inG(n:Net)(F:Nat->Nat->Int)(j:Nat):Nat->List AV:=λi=>bif Nat.beq i j then[.osl 25 (rowF n F j).length]else outG n F j i
theorem uJ(n:Net)(F:Nat->Nat->Int)(j:Nat):outG n F j j=[.nils]:=by
 unfold outG;rw[show Nat.blt j j=false by cases hb:Nat.blt j j with |false=>rfl|true=>exact absurd (Nat.blt_eq.mp hb) (Nat.lt_irrefl _)];rfl
theorem Fe(n:Net)(F:Nat->Nat->Int)(j X:Nat):spl 0 (AV.osl 25 X).cellsL (outG n F j j)=[.osl 25 X]:=by rw[uJ];rfl
theorem Cm{n:Net}{F:Nat->Nat->Int}{j X i:Nat}(hX:X=(rowF n F j).length):(bif Nat.beq i j then spl 0 (AV.osl 25 X).cellsL (outG n F j j)else outG n F j i)=reL (luN []) (inG n F j i):=by
 rw[reL_id,uJ,hX];rfl
theorem Ff(n:Net)(F:Nat->Nat->Int)(j:Nat):inG n F j j=[.osl 25 (rowF n F j).length]:=by
 unfold inG;rw[Nat.beq_refl];rfl
theorem yo{ids:List Nat}(h:ids.elem 25=true)(n:Net)(F:Nat->Nat->Int)(j i:Nat):nmL ids (inG n F j i)=true:=by
 unfold inG;cases Nat.beq i j with
 |true=>show(ids.elem 25&&true)=true;rw[h];rfl
 |false=>exact wN ids n F j i
theorem Fg{i j:Nat}(h:Nat.beq i j=false):Nat.blt i (j+1)=Nat.blt i j:=by
 have hne:i≠j:=λe=>by rw[e,Nat.beq_refl]at h;cases h
 cases h1:Nat.blt i j with
 |true=>exact Nat.blt_eq.mpr (by have:=Nat.blt_eq.mp h1;omega)
 |false=>
  cases h2:Nat.blt i (j+1)with
  |false=>rfl
  |true=>
   have:=Nat.blt_eq.mp h2;rw[Nat.blt_eq.mpr (ω:i<j)]at h1;cases h1
theorem Cn(n:Net)(F:Nat->Nat->Int)(j i:Nat):frzL 25 (.arr (rowF n F j).length 1 (λi=>[J ((rowF n F j).getD i 0)]) 3) (inG n F j i)=outG n F (j+1) i:=by
 unfold inG;cases h:Nat.beq i j with
 |true=>
  have e:=Nat.eq_of_beq_eq_true h;subst e;rw[wM (n:=n) (F:=F) (i:=i) (j:=i+1) ω];rfl
 |false=>
  show frzL 25 _ (outG n F j i)=_;unfold outG;rw[Fg h];cases Nat.blt i j<;>rfl
theorem Co(n:Net)(h:NetOk n)(fid:FuncId)(cs:List AV)(hcs:nmL [] cs=true)(F:Nat->Nat->Int)
  (hat:∀i c:Nat,i<n.lines.length->(c:Int)<(n.lines.getD i default).classes->q0d fid (J i::J c::cs) (J (F i c))) :
  ∃_:Unit,True/\q0c 63 [n.av,.fn fid cs] [] (.osl 12 n.lines.length) [(12,.arr n.lines.length 1 (λi=>dh (rowF n F i)) 22)]:=by
 have hcv:nmV [] (AV.fn fid cs)=true:=by unfold nmV;exact hcs
 have hlen:=h.len;refine opE func63 ntmps63 results63 ?_ (hcl:=⟨rfl,by simp[nmL,nmV,hcs,Net.av,Net.cells,slc],by simp⟩) (hco:=λ_=>⟨rfl,bD (λi hi=>rfl),rfl⟩);repeat'(first|refine' ag|fail)
 all_goals try exact ariA
 refine ae (ι:={j:Nat//j<=n.lines.length}) [1,14,15] [] [] ⟨0,π _⟩ (λ⟨j,_⟩=>n.lines.length-j) (λ⟨j,_⟩=>[(5,.osl 12 n.lines.length),(16,J j)]) (λ⟨j,_⟩=>[(12,some (.arr n.lines.length 1 (outG n F j) 22))]) ?_ ?_
 ·refine⟨⟨rfl,rfl⟩,?_,?_⟩;all_goals((refine' subP)<;>first|exact br _ _ hcv|exact Θ (cS _).symm|exactλi hi=>wN _ _ _ _ _|exact q0b rfl λi hi=>rfl|exact sq1)
 ·rintro⟨j,hj⟩;conv=>whnf
  by_cases hjl:(j:Int)<n.lines.length
  ·have hcl:=(h.line (n.lines.getD j default) (by rw[ψ,β ω];exact List.getElem_mem _)).cls;have er:n.lines.getD (j:Int).toNat default=n.lines.getD j default:=rfl;have hrl:=lm n F j;repeat'(first|(refine VCells.mk ⟨[.osl 25 (n.lines.getD (j:Int).toNat default).classes.toNat],by(dsimp only;rw[Nat.beq_refl];exact Fe _ _ _ _),?_⟩;conv=>whnf)|(refine Λ hjl λhb=>?_;conv=>whnf)|refine' ag|fail)
   all_goals try first|exact ariA|(rw[er];omega)|(rw[er];unfold ah;omega)
   refine ae (ι:={c:Nat//c<=(rowF n F j).length}) [1,6,14,15,16] [] [] ⟨0,π _⟩ (λ⟨c,_⟩=>(rowF n F j).length-c) (λ⟨c,_⟩=>[(5,.osl 12 n.lines.length),(31,J (rowF n F j).length),(32,J c)]) (λ⟨c,_⟩=>[(12,some (.arr n.lines.length 1 (inG n F j) 22)),(25,some (.arr (rowF n F j).length 1 (dz (F j) c) 3))]) ?_ ?_
   ·refine⟨⟨rfl,rfl⟩,?_,?_⟩;all_goals((refine' subP)<;>first|exact br _ _ hcv|exact Θ (cS _).symm|exactλi hi=>yo rfl _ _ _ _|exact q0b rfl (λi hi=>Cm hrl.symm)|exact q0b hrl.symm λi hi=>rfl|exact Ξ (by rw[hrl];rfl)|exact sq1)
   ·rintro⟨c,hc⟩;conv=>whnf
    by_cases hcl:(c:Int)<(rowF n F j).length
    ·have p1:=hat j c ω ω;repeat'(first|(refine VCells.mk ⟨[.osl 25 (rowF n F j).length],Ff _ _ _,?_⟩;conv=>whnf)|(refine Λ hcl λhb=>?_;conv=>whnf)|(refine' aT [] ⟨c+1,ω⟩<;>first|(first|exact br _ _ hcv|exact Θ (cS _).symm|exactλi hi=>yo rfl _ _ _ _|exact q0b rfl (λi hi=>(reL_id _).symm)|exact q0b rfl λi hi=>aR rfl)|exact sq1)|refine' ag|refine ab p1 ?_)
     all_goals try exact ariA
    ·have ec:c=(rowF n F j).length:=ω;have hg:∀i,i<(rowF n F j).length->dz (F j) c i=[J ((rowF n F j).getD i 0)]:=λi hi=>by rw[bY ω,lp n F ω]
     refine am [1,5,14,15,16,31,32] [] [] [] [(12,some (.arr n.lines.length 1 (inG n F j) 22)),(25,some (.arr (rowF n F j).length 1 (λi=>[J ((rowF n F j).getD i 0)]) 3))] ⟨⟨rfl,rfl⟩,?_,?_⟩ ?_
     ·skip;all_goals((refine' subP)<;>first|exactλi hi=>yo rfl _ _ _ _|exact q0b rfl (λi hi=>(reL_id _).symm)|exact q0b rfl hg|exact sq1)
     ·skip;all_goals((refine' subP)<;>first|exact br _ _ hcv|exact Θ (cS _).symm|exact sq1)
     conv=>whnf
     refine ax 25 rfl rfl (λ_ _=>rfl) ?_ ?_ ?_
     ·(repeat'(first|exact True.intro|refine And.intro ?_ ?_))<;>first|exact ξ _|exact(Cl 25 _ _ hcv).1
     ·refine⟨λi hi=>?_,λi hi=>⟨trivial,trivial⟩,?_⟩
      ·unfold inG;exact tV ⟨ξ _,trivial⟩ λ_=>by
        unfold outG;cases Nat.blt i j<;>exact⟨trivial,trivial⟩
      ·exact trivial
     conv=>whnf
     repeat'(first|(refine Υ hcl λhb=>?_;conv=>whnf)|(refine' aT [] ⟨j+1,ω⟩<;>first|(first|exact Θ ((Cl 25 _ _ hcv).2.trans (cS _).symm)|exact br _ _ hcv|exact Θ (cS _).symm|exactλi hi=>wN _ _ _ _ _|exact q0b rfl (λi hi=>(Cn n F j i).trans (reL_id _).symm))|exact sq1)|refine' ag|fail)
     all_goals try exact ariA
  ·have ej:j=n.lines.length:=ω;subst ej;repeat'(first|(refine Υ hjl λhb=>?_;conv=>whnf)|refine' ag|fail)
   refine b7 [4] [] [] [] [(12,some (.arr n.lines.length 1 (λi=>dh (rowF n F i)) 22))] ⟨⟨rfl,rfl⟩,?_,?_⟩ ?_
   ·skip;all_goals((refine' subP)<;>first|exact q0b rfl λi hi=>wM ω|exact sq1)
   ·skip;all_goals exact sq1
   conv=>whnf
   exact aF ⟨(),rfl,⟨rfl,trivial⟩,trivial⟩
def mX(n:Net)(F:Nat->Nat->Int):Xa:=(List.range n.lines.length).map (rowF n F)
theorem gY(n:Net)(F:Nat->Nat->Int):(mX n F).length=n.lines.length:=by simp[mX]
theorem dV(n:Net)(F:Nat->Nat->Int){i:Nat}(h:i<n.lines.length):(mX n F).getD i []=rowF n F i:=by
 simp[mX,h]
theorem Ah(i c:Nat):q0d 64 [J i,J c] (J 0):=by
 refine opG func64 ntmps64 results64 λ_ _ _=>?_;repeat'(first|refine' aj|fail)
 all_goals exact Ψ
theorem Cp(n:Net)(h:NetOk n):q0c 41 [n.av] [] (.osl 12 n.lines.length) [(12,.arr n.lines.length 1 (λi=>dh (rowF n (λ_ _=>0) i)) 22)]:=by
 have p0:=il n h;obtain⟨_,_,p1⟩:=Co n h 64 [] rfl (λ_ _=>0) (λi c _ _=>Ah i c);refine opG func41 ntmps41 results41 (λ_ _ _=>?_) (hcl:=⟨rfl,rfl,rfl,by simp,bD (λi hi=>rfl),rfl⟩);repeat'(first|refine' fX|refine ab p0 ?_|(refine cO p1 rfl ?_;conv=>whnf))
 all_goals first|exact Ψ|rfl|(exfalso;omega)
noncomputable def dW(n:Net)(d:Xa)(i c:Nat):Int:=match d7 n d i c with
 |.ok v=>v
 |.error _=>-1
theorem Ai(n:Net)(d:Xa)(h:NetOk n)(hd:ShapeOk n d)(i c:Nat)(hi:i<n.lines.length)(hc:(c:Int)<(n.lines.getD i default).classes) :
  q0d 99 (J i::J c::[.ibox n.cells 0,.ibox [a9 d] 0]) (J (dW n d i c)):=by
 have hL:0<=(i:Int)/\(i:Int)<n.lines.length:=ω;have p1:=Hc n d h hd i hL c hc;unfold dW;rcases hx:d7 n d i c with e|v
 ·have hne:=bz (uI h hd hL hc hx);rw[hx]at p1;refine opG func99 ntmps99 results99 λ_ _ _=>?_;repeat'(first|refine' aj|refine ab p1 ?_)
  all_goals first|exact absurd ‹_› hne|exact Ψ|omega|(exfalso;omega)
 ·rw[hx]at p1;refine opG func99 ntmps99 results99 λ_ _ _=>?_;repeat'(first|refine' aj|refine ab p1 ?_)
  all_goals first|exact Ψ|omega|(exfalso;omega)
noncomputable def dI(n:Net)(d:Xa):Xa:=mX n (dW n d)
def delR:Except Int (Xa)->AV
 |.ok d=>.tup [a9 d,J 0]
 |.error e=>.tup [.nils,J e]
theorem Cq(n:Net)(d:Xa)(h:NetOk n)(hd:ShapeOk n d):q0d 66 [n.av,a9 d] (delR (.ok (dI n d))):=by
 have p0:=cN n d h hd;obtain⟨_,_,p1⟩:=Co n h 99 [.ibox n.cells 0,.ibox [a9 d] 0] rfl (dW n d) (λi c hi hc=>Ai n d h hd i c hi hc);suffices hh:∃y,y=Except.ok (dI n d)/\q0d 66 [n.av,a9 d] (delR y) by obtain⟨y,rfl,p⟩:=hh;exact p
 refine opE func66 ntmps66 results66 ?_ (hcl:=⟨rfl,rfl,by simp⟩) (hco:=λx=>⟨by cases x<;>rfl,by simp,rfl⟩);repeat'(first|(refine am [] [2,3] [] [(2,.lptr 2 0),(3,.lptr 3 0)] [] ⟨⟨rfl,rfl⟩,sq1,sq1⟩ ?_;(conv=>whnf);(refine ax 2 rfl rfl rfl ?_ ?_ ?_;(solve|try refine' frzZ);(solve|try refine' frzZ));(conv=>whnf);(refine ax 3 rfl rfl rfl ?_ ?_ ?_;(solve|try refine' frzZ);(solve|try refine' frzZ));(conv=>whnf))|refine' ag|refine ab p0 ?_|(refine cO p1 rfl ?_;conv=>whnf))
 all_goals try first|omega|(exfalso;omega)
 refine b7 [4,5] [] [] [] [(12,some (.arr n.lines.length 1 (λi=>dh ((dI n d).getD i [])) 22))] ⟨⟨rfl,rfl⟩,?_,?_⟩ (bP 12 rfl rfl (λ_ _=>rfl) ?_ ?_ (cT ?_))
 ·skip;all_goals((refine' subP)<;>first|exact q0b rfl λi hi=>congrArg dh (dV n (dW n d) hi).symm|exact sq1)
 ·skip;all_goals exact sq1
 ·all_goals try refine' frzZ
 ·all_goals try refine' frzZ
 ·conv=>whnf
  exact⟨.ok (dI n d),AvLe.tup (.cons (Γ (gY n (dW n d)).symm λi hi=>rfl) (.cons Ψ .nil)),rfl⟩
structure Ord(N:Nat)(E:Nat->Nat->Bool)(l:List Nat):Prop where
 nodup:l.Nodup
 lt:∀x∈l,x<N
 topo:∀p b q,l=p++b::q->∀a,a<N->E a b=true->a∈p
theorem Ord.nil{N:Nat}{E:Nat->Nat->Bool}:Ord N E []:=⟨List.nodup_nil,λx hx=>(by cases hx),λp b q h=>(by cases p<;>cases h)⟩
theorem Fh{n:Net}{d:Xa}(h:NetOk n)(hd:ShapeOk n d){L:Int}(hL:0<=L/\L<n.lines.length){k:Nat}(hk:(k:Int)<(n.lines.getD L.toNat default).classes){v:Int}(he:d7 n d L k=.ok v):0<=v/\v<=400:=by
 have q:=(sJ h hd hL hk).dx;unfold d7 at he;rcases hm:(fy n d L k).1 with e'|⟨i,a,w⟩
 ·rw[hm]at he;cases he
 ·rw[hm]at he q;dsimp only at he;split at he
  ·cases he
  ·rename_i hn;injection he with he;subst he;have q':0<=a:=q;refine⟨q',?_⟩;rcases Int.lt_or_le 400 a with h1|h1
   ·exact absurd (.inr h1) hn
   ·exact h1
def LeastF(N:Nat)(E:Nat->Nat->Bool)(o:List Nat)(r:Nat):Prop:=(r<N/\r∉o/\∀a,a<N->E a r=true->a∈o)/\∀b,b<r->b∈o\/∃a,a<N/\a∉o/\E a b=true
def OrdC(N:Nat)(E:Nat->Nat->Bool)(l:List Nat):Prop:=∀i,i<l.length->LeastF N E (l.take i) (l.getD i 0)
theorem OrdC.nil{N:Nat}{E:Nat->Nat->Bool}:OrdC N E []:=ν
def cntL(y:Nat):List (Nat×Nat)->Int
 |[]=>0
 |p::r=>(if p.2=y then 1 else 0)+cntL y r
def inSum(E:Nat->Nat->Bool)(y:Nat):Nat->Int:=bsum λx=>if E x y=true then 1 else 0
structure EdgL(N:Nat)(E:Nat->Nat->Bool)(a b:Nat)(l:List (Nat×Nat)):Prop where
 len:l.length<=N*a+b
 lt:∀p∈l,p.1<N/\p.2<N
 cnt:∀y,y<N->cntL y l=inSum E y a+(if y<b/\E a y=true then 1 else 0)
theorem EdgL.nil{N:Nat}{E:Nat -> Nat -> Bool}:EdgL N E 0 0 []:=⟨π _,fun p hp=>(by cases hp),fun y hy=>by
 show(0:Int)=0+_;rw[if_neg (λh=>absurd h.1 (Nat.not_lt_zero y))];rfl⟩
theorem EdgL.row{N:Nat}{E:Nat->Nat->Bool}{a:Nat}{l:List (Nat×Nat)}(h:EdgL N E a N l):EdgL N E (a+1) 0 l:=by
 refine⟨by have:=h.len;rw[Nat.mul_succ];omega,h.lt,λy hy=>?_⟩;rw[h.cnt y hy];show _=inSum E y a+(if E a y=true then 1 else 0)+_;simp only[hy,true_and,Nat.not_lt_zero,false_and,if_false];omega
def Aj(s:ByteArray):Prop:=WordP s
theorem pY(i:Nat):Aj (kD i):=q9 i
theorem pZ(i:Nat):Aj (cZ i):=qA i
theorem jh:∀n,∀x∈b8 n,Aj x
 |0,_,h=>by cases h
 |n+1,x,h=>by
  rcases List.mem_append.1 h with h|h
  ·exact jh n x h
  ·rw[List.mem_singleton.1 h];exact pY n
theorem ji:∀n,∀x∈iY n,Aj x
 |0,_,h=>by cases h
 |n+1,x,h=>by
  rcases List.mem_append.1 h with h|h
  ·exact ji n x h
  ·rw[List.mem_singleton.1 h];exact pZ n
structure NamesOk(n:Net):Prop where
 names:∀x∈n.names,Aj x
 flows:∀f∈n.flows,Aj f.name
theorem Cr(s:Rd)(lines flows:Int)(h0:1<=lines)(h1:lines<=4)(h2:0<=flows):NamesOk (s.net lines flows).1/\(s.net lines flows).1.lines.length<=lines.toNat:=by
 obtain⟨k,s1,e1⟩:∃k s1,s.range 1 2=(k,s1):=⟨_,_,rfl⟩;obtain⟨c,s2,e2⟩:∃c s2,s1.range 1 lines=(c,s2):=⟨_,_,rfl⟩;obtain⟨l,s3,e3⟩:∃l s3,Rd.lines k c.toNat s2=(l,s3):=⟨_,_,rfl⟩;obtain⟨e,s4,e4⟩:∃e s4,s3.range 0 flows=(e,s4):=⟨_,_,rfl⟩;have m1:=bX e1 ω;have m2:=bX e2 ω;have m4:=bX e4 ω;have er:s.net lines flows=(⟨b8 c.toNat,l,(Rd.flows c.toNat k e.toNat s4).1⟩,(Rd.flows c.toNat k e.toNat s4).2):=by
  simp only[Rd.net,e1,e2,e3,e4]
 rw[er];have hl:=nU (k:=k) ω c.toNat s2;have hn:=Rd.lines_len k s2 c.toNat;rw[e3]at hl hn;dsimp only at hl hn;have hcl:∀i:Nat,i<c.toNat->(l.getD i default).classes=k:=λi hi=>(hl _ (by simp[<-hn,hi])).2;have hfl:=nV hn.symm ω ω ω hcl e.toNat s4;refine⟨⟨jh _,λf hf=>ji e.toNat _ ?_⟩,κ⟩;rw[<-hfl.2];exact List.mem_map.2 ⟨f,hf,rfl⟩
theorem ValidF.valid{c:Curve}(h:ValidF c):c.valid=true:=by
 have hl:=h.len;have hp:=h.per;have hi:=h.inc;obtain⟨r,hr⟩:=wv (l:=c.vals) (a:=0) (λi hi=>(h.val i hi).2) h.mono (λ_=>(h.val 0 ω).1);have hne:c.vals≠[]:=λe=>by rw[e]at hl;simp at hl
 have hlast:=fJ hr hne;have hlv:=h.val (c.vals.length-1) ω;unfold Curve.valid;rw[if_neg ω,hr];dsimp only;rw[if_neg (by unfold inf;omega)];exact decide_eq_true (hlast▸h.last)
theorem f7(c:Curve)(h:ValidF c):∃b:Bool,b=true/\q0d 89 [c.av] (.bool b):=by
 obtain⟨b,hb,p⟩:=mN c;exact⟨b,hb.trans h.valid,p⟩
theorem bS(c:Curve)(h:ValidF c):∃b:Bool,b=true/\q0d 90 [c.av] (.bool b):=by
 have hl:=h.len;have hv:=h.val (c.vals.length-1) ω;obtain⟨b,hb,p⟩:=si c h.valid;exact⟨b,hb.2 (by unfold inf;omega),p⟩
theorem uK(n:Net)(h:NetOk n)(hw:NamesOk n)(i:Nat)(hi:i<n.flows.length):∃e:Int,e=0/\q0d 55 [n.av,J i] (J e):=by
 obtain⟨f,ef⟩:∃f,f=n.flows.getD i default:=⟨_,rfl⟩;have hfm:f∈n.flows:=by rw[ef,ψ,β hi];exact List.getElem_mem _
 have hfo:FlowOk n.lines f:=h.flow _ hfm;have hne:=hfo.ne;have hfl:=h.flen;have hln:=h.len;have hcls:=hfo.cls;have hsz:=hfo.sizes;have hz0:=hfo.zero;have hv:=nY hfo.valid hfo.fin;have hvl:=hv.len;have pw:q0d 53 [.str f.name] (.bool true):=xP (hw.flows _ hfm);obtain⟨_,rfl,pv⟩:=f7 f.con hv;obtain⟨_,rfl,pf⟩:=bS f.con hv;have hnm:∀j:Nat,j<i->¬(n.flows.getD (j:Int).toNat default).name=f.name:=λj hj e=>by
  have e1:(n.flows.map Flow.name).getD j .empty=(n.flows.getD j default).name:=by simp[(ω:j<n.flows.length)]
  have e2:(n.flows.map Flow.name).getD i .empty=f.name:=by rw[ef];simp[hi]
  have:=sj h.fnodup (i:=j) (j:=i) (by simpa using(by omega:j<n.flows.length)) (by simpa using hi) .empty (by rw[e1,e2];exact e);omega
 refine opE func55 ntmps55 results55 ?_;refine gvE ?_;conv=>whnf
 refine gvE ?_;conv=>whnf
 refine Side.mk ⟨ω,ω⟩ ?_;conv=>whnf
 refine am [1,2,5] [2] [] [] [(5,some (.box f.cells))] ⟨⟨rfl,rfl⟩,?_,?_⟩ ?_
 ·skip;all_goals((refine' subP)<;>first|rw[ef];exact q0a|exact sq1)
 ·skip;all_goals exact sq1
 conv=>whnf
 repeat'(first|refine' bk|refine ab pw ?_)
 all_goals try exact ariA
 refine ae (ι:={j:Nat//j<=i}) [1,2,5] [2,5] [] ⟨0,ω⟩ (λ⟨j,_⟩=>i-j) (λ⟨j,_⟩=>[(6,J j)]) (λ_=>[]) ?_ ?_
 ·exact⟨⟨rfl,rfl⟩,sq1,sq1⟩
 ·rintro⟨j,hj⟩;conv=>whnf
  repeat'(first|(exact aL [] ⟨j+1,ω⟩)|refine' bk|fail)
  all_goals try exact ariA
  all_goals try exact absurd ‹_› (hnm j ω)
  all_goals try exact⟨_,rfl,by exfalso;omega⟩
  all_goals try exact⟨_,rfl,absurd (nQ _ _ (eq_of_beq ‹_›)) (hnm j ω)⟩
  refine ae (ι:={j:Nat//j<=f.route.length}) [2,5] [2,5] [] ⟨0,ω⟩ (λ⟨j,_⟩=>f.route.length-j) (λ⟨j,_⟩=>[(7,J j)]) (λ_=>[]) ?_ ?_
  ·exact⟨⟨rfl,rfl⟩,sq1,sq1⟩
  ·rintro⟨k,hk⟩;conv=>whnf
   have hm:k<f.route.length->0<=f.route.getD (k:Int).toNat 0/\f.route.getD (k:Int).toNat 0<n.lines.length:=λhk=>hfo.lines _ (a8 (ω:(k:Int).toNat<f.route.length));have hm2:k<f.route.length->f.class_<(n.lines.getD (f.route.getD (k:Int).toNat 0).toNat default).classes:=λhk=>hfo.cls2 _ (a8 (ω:(k:Int).toNat<f.route.length));have hnd:∀m:Nat,m<k->k<f.route.length->¬f.route.getD (m:Int).toNat 0=f.route.getD (k:Int).toNat 0:=λm hm hk e=>by
    have:=sj hfo.nodup (i:=m) (j:=k) ω hk 0 e;omega
   have z0:f.con.vals.getD ((0:Int)).toNat 0=0:=hz0;repeat'(first|(exact aL [] ⟨k+1,ω⟩)|refine' bk|refine ab pv ?_|refine ab pf ?_)
   all_goals try exact ariA
   all_goals try exact⟨0,rfl,rfl⟩
   all_goals try exact⟨_,rfl,by exfalso;omega⟩
   refine ae (ι:={m:Nat//m<=k}) [2,5,7,8] [2,5] [] ⟨0,ω⟩ (λ⟨m,_⟩=>k-m) (λ⟨m,_⟩=>[(9,J m)]) (λ_=>[]) ?_ ?_
   ·exact⟨⟨rfl,rfl⟩,sq1,sq1⟩
   ·rintro⟨m,hm⟩;conv=>whnf
    repeat'(first|(exact aL [] ⟨m+1,ω⟩)|(exact aL [] ⟨k+1,ω⟩)|refine' bk|fail)
    all_goals try exact ariA
    all_goals try exact⟨_,rfl,by exfalso;omega⟩
    all_goals try exact⟨_,rfl,by exfalso;exact hnd m ω ω ‹_›⟩
theorem f8(n:Net)(h:NetOk n)(hw:NamesOk n):∃e:Int,e=0/\q0d 28 [n.av] (J e):=by
 have hfl:=h.flen;have hln:=h.len;have hnl:=h.nlen;have hL:∀i:Nat,i<n.lines.length->LineOk (n.lines.getD i default):=λi hi=>h.line _ (by simp[hi]);have hW:∀i:Nat,i<n.lines.length->q0d 53 [.str (n.names.getD i .empty)] (.bool true):=λi hi=>xP (hw.names _ (by simp[(ω:i<n.names.length)]));refine opE func28 ntmps28 results28 ?_;repeat'(first|refine' bk|fail)
 all_goals try first|exact ariA|exact⟨_,rfl,by exfalso;omega⟩
 refine ae (ι:={i:Nat//i<=n.lines.length}) [1] [1] [] ⟨0,ω⟩ (λ⟨i,_⟩=>n.lines.length-i) (λ⟨i,_⟩=>[(3,J i)]) (λ_=>[]) ?_ ?_
 ·exact⟨⟨rfl,rfl⟩,sq1,sq1⟩
 ·rintro⟨i,hi⟩;conv=>whnf
  by_cases hlt:(i:Int)<n.lines.length
  ·have p1:=hW i ω;obtain⟨_,rfl,p2⟩:=kE _ (hL i ω);repeat'(first|(refine Λ hlt λhb=>?_;conv=>whnf)|refine' bk|refine ab p1 ?_)
   all_goals try exact ariA
   refine ae (ι:={m:Nat//m<=i}) [1,3] [1] [] ⟨0,ω⟩ (λ⟨m,_⟩=>i-m) (λ⟨m,_⟩=>[(4,J m)]) (λ_=>[]) ?_ ?_
   ·exact⟨⟨rfl,rfl⟩,sq1,sq1⟩
   ·rintro⟨m,hm⟩;conv=>whnf
    by_cases hmi:(m:Int)<i
    ·skip;repeat'(first|(refine Λ hmi λhb=>?_;conv=>whnf)|(exact aL [] ⟨m+1,ω⟩)|refine' bk|fail)
     all_goals try exact ariA
     all_goals exact ⟨_,rfl,by
      exfalso;have:=sj h.nodup (i:=(m:Int).toNat) (j:=(i:Int).toNat) ω ω .empty (nQ _ _ (eq_of_beq ‹_›));omega⟩
    ·skip;repeat'(first|(refine Υ hmi λhb=>?_;conv=>whnf)|(exact aL [] ⟨i+1,ω⟩)|refine' bk|refine ab p2 ?_)
     all_goals try exact ariA
  ·skip;repeat'(first|(refine Υ hlt λhb=>?_;conv=>whnf)|refine' ag|fail)
   all_goals try exact ariA
   refine ae (ι:={i:Nat//i<=n.flows.length}) [1] [1] [] ⟨0,ω⟩ (λ⟨i,_⟩=>n.flows.length-i) (λ⟨i,_⟩=>[(6,J i)]) (λ_=>[]) ?_ ?_
   ·exact⟨⟨rfl,rfl⟩,sq1,sq1⟩
   ·rintro⟨i,hi⟩;conv=>whnf
    by_cases hfi:(i:Int)<n.flows.length
    ·obtain⟨_,rfl,p3⟩:=uK n h hw i ω;repeat'(first|(refine Λ hfi λhb=>?_;conv=>whnf)|(exact aL [] ⟨i+1,ω⟩)|refine' bk|refine ab p3 ?_)
     all_goals try exact ariA
    ·skip;repeat'(first|(refine Υ hfi λhb=>?_;conv=>whnf)|refine' bk|fail)
     all_goals first|exact⟨0,rfl,rfl⟩|exact ariA
theorem NetOk.names{n:Net}(h:NetOk n):NamesOk n:=⟨h.word,h.fword⟩
end Go.Nc