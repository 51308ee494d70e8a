import Derived.Test.YtbdkgpcdkalfdaaGreatNcJB
import Derived.Test.YtbdkgpcdkalfdaaGreatNcQC
namespace Go.Nc
set_option maxHeartbeats 1000000
open Go.Proofs.Tryz
open Go.Proofs
mutual
theorem frz_nm(id:Nat)(ob:LObj):∀v:AV,nmV [] v=true->frzC id ob v/\frzV id ob v=v
 |.fn g cs,h=>by
  have:=frzL_nm id ob cs (by simpa[nmV]using h);exact⟨by simpa[frzC]using this.1,by simp only[frzV,this.2]⟩
 |.agg cs,h=>by
  have:=frzL_nm id ob cs (by simpa[nmV]using h);exact⟨by simpa[frzC]using this.1,by simp only[frzV,this.2]⟩
 |.tup cs,h=>by
  have:=frzL_nm id ob cs (by simpa[nmV]using h);exact⟨by simpa[frzC]using this.1,by simp only[frzV,this.2]⟩
 |.lptr ..,h|.osl ..,h|.osub ..,h|.optr ..,h|.mref ..,h|.yld ..,h=>by simp[nmV]at h
 |.int ..,_|.bool ..,_|.str ..,_|.junk,_|.isl ..,_|.icap ..,_|.eptr ..,_|.ibox ..,_|.nils,_|.emp,_|.niface,_|.nfunc,_|.nptr,_|.nmap,_|.iface ..,_=>⟨by simp[frzC],rfl⟩
theorem frzL_nm(id:Nat)(ob:LObj):∀l:List AV,nmL [] l=true->frzCL id ob l/\frzL id ob l=l
 |[],_=>⟨trivial,rfl⟩
 |c::cs,h=>by
  simp only[nmL,Bool.and_eq_true]at h;have h1:=frz_nm id ob c h.1;have h2:=frzL_nm id ob cs h.2;exact⟨⟨h1.1,h2.1⟩,by simp only[frzL,h1.2,h2.2]⟩
end
def rowF(n:Net)(F:Nat->Nat->Int)(i:Nat):List Int:=(List.range (n.lines.getD i default).classes.toNat).map (F i)
theorem nI(n:Net)(F:Nat->Nat->Int)(i:Nat):(rowF n F i).length=(n.lines.getD i default).classes.toNat:=by simp[rowF]
theorem tt(n:Net)(F:Nat->Nat->Int){i c:Nat}(h:c<(n.lines.getD i default).classes.toNat):(rowF n F i).getD c 0=F i c:=bB h
def outG(n:Net)(F:Nat->Nat->Int)(j:Nat):Nat->List AV:=λi=>bif Nat.blt i j then bY (rowF n F i)else[.nils]
theorem Cs{n:Net}{F:Nat->Nat->Int}{i j:Nat}(h:i<j):outG n F j i=bY (rowF n F i):=by
 unfold outG;rw[Nat.blt_eq.mpr h];rfl
theorem G0(ids:List Nat)(n:Net)(F:Nat->Nat->Int)(j i:Nat):nmL ids (outG n F j i)=true:=by
 unfold outG;cases Nat.blt i j<;>rfl
def inG(n:Net)(F:Nat->Nat->Int)(j:Nat):Nat->List AV:=λi=>bif Nat.beq i j then[.osl 25 (rowF n F j).length]else outG n F j i
theorem inG_nm{ids:List Nat}(h:ids.elem 25=true)(n:Net)(F:Nat->Nat->Int)(j i:Nat):nmL ids (inG n F j i)=true:=by
 unfold inG;cases Nat.beq i j with
 |true=>show(ids.elem 25&&true)=true;rw[h];rfl
 |false=>exact G0 ids n F j i
theorem EG{i j:Nat}(h:Nat.beq i j=false):Nat.blt i (j+1)=Nat.blt i j:=by
 have hne:i≠j:=λe=>by rw[e,Nat.beq_refl]at h;cases h
 cases h1:Nat.blt i j with
 |true=>exact Nat.blt_eq.mpr (by have:=Nat.blt_eq.mp h1;omega)
 |false=>
  cases h2:Nat.blt i (j+1)with
  |false=>rfl
  |true=>
   have:=Nat.blt_eq.mp h2;rw[Nat.blt_eq.mpr (ω:i<j)]at h1;cases h1
theorem G1(n:Net)(F:Nat->Nat->Int)(j i:Nat):frzL 25 (.arr (rowF n F j).length 1 (λi=>[.int .i64 ((rowF n F j).getD i 0)]) 3) (inG n F j i)=outG n F (j+1) i:=by
 unfold inG;cases h:Nat.beq i j with
 |true=>
  have e:=Nat.eq_of_beq_eq_true h;subst e;rw[Cs (n:=n) (F:=F) (i:=i) (j:=i+1) ω];rfl
 |false=>
  show frzL 25 _ (outG n F j i)=_;unfold outG;rw[EG h];cases Nat.blt i j<;>rfl
def tu(n:Net)(F:Nat->Nat->Int):List (List Int):=(List.range n.lines.length).map (rowF n F)
theorem pk(n:Net)(F:Nat->Nat->Int):(tu n F).length=n.lines.length:=by simp[tu]
theorem lC(n:Net)(F:Nat->Nat->Int){i:Nat}(h:i<n.lines.length):(tu n F).getD i []=rowF n F i:=by
 simp[tu,h]
noncomputable def Ct(n:Net)(d:List (List Int))(i c:Nat):Int:=match iP n d i c with
 |.ok v=>v
 |.error _=>-1
noncomputable def xj(n:Net)(d:List (List Int)):List (List Int):=tu n (Ct n d)
def delR:Except Int (List (List Int))->AV
 |.ok d=>.tup [aL d,.int .i64 0]
 |.error e=>.tup [.nils,.int .i64 e]
theorem EH{n:Net}{d:List (List Int)}(h:NetOk n)(hd:ShapeOk n d){L:Int}(hL:0<=L/\L<n.lines.length){k:Nat}(hk:(k:Int)<(n.lines.getD L.toNat default).classes){v:Int}(he:iP n d L k=.ok v):0<=v/\v<=400:=by
 have q:=(xh h hd hL hk).dx;unfold iP at he;rcases hm:(lB n d L k).1 with e'|⟨i,a,w⟩
 ·rw[hm]at he;cases he
 ·rw[hm]at he q;dsimp only at he;split at he
  ·cases he
  ·rename_i hn;injection he with he;subst he;have q':0<=a:=q;refine⟨q',?_⟩;rcases Int.lt_or_le 400 a with h1|h1
   ·exact absurd (.inr h1) hn
   ·exact h1
def EI(s:ByteArray):Prop:=WordP s
theorem jV(i:Nat):EI (kN i):=qR i
theorem qq(i:Nat):EI (cU i):=qS i
structure NamesOk(n:Net):Prop where
 names:∀x∈n.names,EI x
 flows:∀f∈n.flows,EI f.name
theorem f9(c:Curve)(h:ValidF c):∃b:Bool,b=true/\q0d 95 [c.av] (.bool b):=by
 have hl:=h.len;have hpp:=h.per;have hi:=h.inc;have hlast:=h.last;have ell:((c.vals.length:Int)-1).toNat=c.vals.length-1:=ω;have b2:=h.val (c.vals.length-1) ω;have b3:=h.val ((c.vals.length:Int)-c.per).toNat ω;rw[<-ell]at hlast b2;refine opE func95 ntmps95 results95 ?_;repeat'(first|refine' cj|fail)
 all_goals try exact ariA
 all_goals try exact⟨false,rfl,by exfalso;omega⟩
 refine ag (ι:={i:Nat//i<=c.vals.length}) [1,3] [1] [] ⟨0,ω⟩ (λ⟨i,_⟩=>c.vals.length-i) (λ⟨i,_⟩=>[(4,.int .i64 i)]) (λ_=>[]) ?_ ?_
 ·exact⟨⟨rfl,rfl⟩,sq1,sq1⟩
 ·rintro⟨i,hi1⟩;conv=>whnf
  have b1:i<c.vals.length->0<=c.vals.getD (i:Int).toNat 0/\c.vals.getD (i:Int).toNat 0<=1073741824:=λhi=>h.val _ ω;have m1:i<c.vals.length->0<i->c.vals.getD ((i:Int)-1).toNat 0<=c.vals.getD (i:Int).toNat 0:=λhi h0=>by
   have:=h.mono (i-1) ω;rw[(ω:i-1+1=i)]at this;rw[(ω:((i:Int)-1).toNat=i-1),(ω:((i:Int)).toNat=i)];exact this
  repeat'(first|(exact aJ [] ⟨i+1,ω⟩)|refine' cj|fail)
  all_goals try first|exact ariA|exact⟨false,rfl,by exfalso;omega⟩
  all_goals exact⟨_,rfl,decide_eq_true ω⟩
theorem bO(c:Curve)(h:ValidF c):∃b:Bool,b=true/\q0d 97 [c.av] (.bool b):=by
 have hl:=h.len;obtain⟨_,rfl,p1⟩:=f9 c h;have ell:((c.vals.length:Int)-1).toNat=c.vals.length-1:=ω;have b2:=h.val (c.vals.length-1) ω;rw[<-ell]at b2;refine opE func97 ntmps97 results97 ?_;repeat'(first|refine' cj|refine ab p1 ?_)
 all_goals try exact ariB
 all_goals first|exact⟨true,rfl,rfl⟩|exact⟨_,rfl,by rw[decide_eq_false ω];rfl⟩
theorem fA(n:Net)(h:NetOk n)(_:NamesOk n):∃e:Int,e=0/\q0d 48 [n.av] (.int .i64 e):=⟨_,(gZ n).2 h,ox n⟩
theorem NetOk.names{n:Net}(h:NetOk n):NamesOk n:=⟨h.word,h.fword⟩
end Go.Nc