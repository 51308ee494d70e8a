/- Parts. -/
import Derived.Test.YtooapceogfengaaGreatNcKA
namespace Go.Nc
open Go.Proofs.Tryz
open Go.Proofs
set_option maxHeartbeats 8000000
theorem qB:q0d 96 [J 1] (.tup [.iface 179 (.agg []),.bool true]):=by
 refine opG func96 ntmps96 results96 λ_ _ _=>?_;repeat'(first|refine' aj|(refine VLook.mk ⟨none,rfl,?_⟩;conv=>whnf)|(refine VLook.mk ⟨some (_,_),rfl,?_⟩;conv=>whnf))
 all_goals exact Ψ
theorem qC:q0d 96 [J 2] (.tup [.iface 180 (.agg []),.bool true]):=by
 refine opG func96 ntmps96 results96 λ_ _ _=>?_;repeat'(first|refine' aj|(refine VLook.mk ⟨none,rfl,?_⟩;conv=>whnf)|(refine VLook.mk ⟨some (_,_),rfl,?_⟩;conv=>whnf))
 all_goals exact Ψ
theorem qD:q0d 96 [J 3] (.tup [.iface 181 (.agg []),.bool true]):=by
 refine opG func96 ntmps96 results96 λ_ _ _=>?_;repeat'(first|refine' aj|(refine VLook.mk ⟨none,rfl,?_⟩;conv=>whnf)|(refine VLook.mk ⟨some (_,_),rfl,?_⟩;conv=>whnf))
 all_goals exact Ψ
theorem qE:q0d 96 [J 4] (.tup [.iface 182 (.agg []),.bool true]):=by
 refine opG func96 ntmps96 results96 λ_ _ _=>?_;repeat'(first|refine' aj|(refine VLook.mk ⟨none,rfl,?_⟩;conv=>whnf)|(refine VLook.mk ⟨some (_,_),rfl,?_⟩;conv=>whnf))
 all_goals exact Ψ
theorem qF:q0d 96 [J 5] (.tup [.iface 183 (.agg []),.bool true]):=by
 refine opG func96 ntmps96 results96 λ_ _ _=>?_;repeat'(first|refine' aj|(refine VLook.mk ⟨none,rfl,?_⟩;conv=>whnf)|(refine VLook.mk ⟨some (_,_),rfl,?_⟩;conv=>whnf))
 all_goals exact Ψ
@[irreducible] noncomputable def nmOf(k:Nat):String:=match prog.types[179]? with
 |some t=>(match t.methods[k]? with |some m=>m.name|none=>default)
 |none=>default
theorem rP(w:World):(method (prog.types.size+Made.depth) 179 (.agg #[]) (nmOf 0)).run prog w=.ok (294,.agg #[]) w:=by kernel_rfl
theorem rQ(w:World):(method (prog.types.size+Made.depth) 180 (.agg #[]) (nmOf 0)).run prog w=.ok (298,.agg #[]) w:=by kernel_rfl
theorem rR(w:World):(method (prog.types.size+Made.depth) 181 (.agg #[]) (nmOf 0)).run prog w=.ok (308,.agg #[]) w:=by kernel_rfl
theorem rT(w:World):(method (prog.types.size+Made.depth) 182 (.agg #[]) (nmOf 0)).run prog w=.ok (323,.agg #[]) w:=by kernel_rfl
theorem rU(w:World):(method (prog.types.size+Made.depth) 183 (.agg #[]) (nmOf 0)).run prog w=.ok (333,.agg #[]) w:=by kernel_rfl
theorem rV(w:World):(method (prog.types.size+Made.depth) 179 (.agg #[]) (nmOf 1)).run prog w=.ok (295,.agg #[]) w:=by kernel_rfl
theorem rW(w:World):(method (prog.types.size+Made.depth) 180 (.agg #[]) (nmOf 1)).run prog w=.ok (299,.agg #[]) w:=by kernel_rfl
theorem rX(w:World):(method (prog.types.size+Made.depth) 181 (.agg #[]) (nmOf 1)).run prog w=.ok (309,.agg #[]) w:=by kernel_rfl
theorem rY(w:World):(method (prog.types.size+Made.depth) 182 (.agg #[]) (nmOf 1)).run prog w=.ok (324,.agg #[]) w:=by kernel_rfl
theorem rZ(w:World):(method (prog.types.size+Made.depth) 183 (.agg #[]) (nmOf 1)).run prog w=.ok (334,.agg #[]) w:=by kernel_rfl
def KindOk(l:Line):Prop:=((l.kind=1\/l.kind=2)/\l.weights=[]/\l.slots=[])\/(l.kind=3/\l.classes=l.weights.length/\(∀x∈l.weights,1<=x/\x<=20)/\l.slots=[])\/
 (l.kind=4/\l.classes=l.weights.length/\(∀x∈l.weights,1<=x/\x<=6000)/\l.slots=[])\/(l.kind=5/\l.weights=[]/\1<=l.slots.length/\l.slots.length<=40/\∀x∈l.slots,-1<=x/\x<=l.classes-1)
structure LineOk(l:Line):Prop where
 cap:1<=l.cap/\l.cap<=4000
 cls:1<=l.classes/\l.classes<=6
 kind:KindOk l
structure FlowOk(ls:List Line)(f:Flow):Prop where
 ne:1<=f.route.length/\f.route.length<=4
 lines:∀x∈f.route,0<=x/\x<ls.length
 nodup:f.route.Nodup
 cls:0<=f.class_
 cls2:∀x∈f.route,f.class_<(ls.getD x.toNat default).classes
 sizes:1<=f.least/\f.least<=f.most/\f.most<=1500
 valid:f.con.valid=true
 len:1<=f.con.vals.length/\f.con.vals.length<=400
 zero:f.con.vals.getD 0 0=0
 fin:f.con.vals.getD (f.con.vals.length-1) 0≠inf
theorem Bs(c:Curve)(hl:1<=c.vals.length/\c.vals.length<=400)(hf:c.vals.getD (c.vals.length-1) 0≠inf):q0d 143 [c.av] (.bool true):=by
 have e:((c.vals.length:Int)-1).toNat=c.vals.length-1:=ω;refine opG func143 ntmps143 results143 λ_ _ _=>?_;repeat'(first|refine' aj|fail)
 all_goals first|exact ariA|skip
 refine Θ ?_;show AV.bool (!decide (c.vals.getD ((c.vals.length:Int)-1).toNat 0=4611686018427387904))=_;rw[e,decide_eq_false (show¬c.vals.getD (c.vals.length-1) 0=4611686018427387904 from hf)];rfl
theorem wt(c:Curve)(hv:c.valid=true)(hl:1<=c.vals.length/\c.vals.length<=400)(hf:c.vals.getD (c.vals.length-1) 0≠inf):q0d 98 [c.av] (.bool true):=by
 have h:=dF c;rw[hv]at h;refine opG func98 ntmps98 results98 λ_ _ _=>?_;repeat'(first|refine' aj|refine ab h ?_|refine ab (Bs c hl hf) ?_)
 all_goals try dsimp only at hb
 all_goals try simp only[χ]at hb
 all_goals first|exact Ψ|exactλ_ _=>rfl|omega|(dsimp only;omega)|(dsimp only;unfold ah;omega)|((repeat'(first|exact True.intro|refine And.intro ?_ ?_))<;>first|rfl|exactλ_ _=>rfl|(refine Ξ ?_;dsimp only;omega)|((conv=>whnf)<;>first|exact Ψ|exact q0a|(refine Ξ ?_;dsimp only;omega)))
theorem tW{x:Int}:∀{l:List Int} (i:Nat),x∉l->pR (J x) (l.map λy=>(J y,.bool true)) i=some none
 |[],_,_=>rfl
 |y::l,i,h=>by
  simp only[List.mem_cons,not_or]at h;simp only[List.map_cons,pR,if_neg h.1];exact tW (i+1) h.2
theorem xR{ids:List Nat}{l:List Int}:∀k v,(k,v)∈(l.map λy=>((J y:AV),(.bool true:AV)))->nmV ids k=true/\nmV ids v=true:=λk v hm=>by
 obtain⟨x,_,he⟩:=List.mem_map.1 hm;cases he;exact⟨rfl,rfl⟩
def Ew(l:List Int):List (AV×AV):=l.map λy=>(J y,.bool true)
theorem jN{l:List Int}{j:Nat}(h:j<l.length):l.take (j+1)=l.take j++[l.getD j 0]:=by
 rw[List.take_add_one];simp[h]
def mM(s:ByteArray):Prop:=WordP s
def jG(l:List ByteArray):List (AV×AV):=l.map λy=>(.str y,.bool true)
theorem gi{ids:List Nat}{l:List ByteArray}:∀k v,(k,v)∈(l.map λy=>((.str y:AV),(.bool true:AV)))->nmV ids k=true/\nmV ids v=true:=λk v hm=>by
 obtain⟨x,_,he⟩:=List.mem_map.1 hm;cases he;exact⟨rfl,rfl⟩
theorem lS{x:ByteArray}:∀{l:List ByteArray} (i:Nat),x∉l->pR (.str x) (l.map λy=>(.str y,.bool true)) i=some none
 |[],_,_=>rfl
 |y::l,i,h=>by
  simp only[List.mem_cons,not_or]at h;simp only[List.map_cons,pR,if_neg h.1];exact lS (i+1) h.2
structure NetOk(n:Net):Prop where
 len:1<=n.lines.length/\n.lines.length<=8
 flen:n.flows.length<=10
 nlen:n.names.length=n.lines.length
 word:∀x∈n.names,mM x
 nodup:n.names.Nodup
 line:∀l∈n.lines,LineOk l
 fword:∀f∈n.flows,mM f.name
 fnodup:(n.flows.map Flow.name).Nodup
 flow:∀f∈n.flows,FlowOk n.lines f
theorem takeS{l:List ByteArray}{j:Nat}(h:j<l.length)(d:ByteArray):l.take (j+1)=l.take j++[l.getD j d]:=by
 rw[List.take_add_one];simp[h]
theorem Bt{l:List ByteArray}(h:l.Nodup){j:Nat}(hj:j<l.length)(d:ByteArray):l.getD j d∉l.take j:=by
 intro hm;have e:l.getD j d=l[j]:=by simp[hj]
 rw[e]at hm;obtain⟨i,hi,he⟩:=List.mem_iff_getElem.1 hm;simp only[List.length_take]at hi;rw[List.getElem_take]at he;have hi2:i<j:=ω;exact(List.pairwise_iff_getElem.1 h) i j ω hj hi2 he
def tX(l:List Int):Nat->Int
 |0=>0
 |j+1=>l.getD j 0
theorem Bu{c:Curve}(h:c.valid=true):1<=c.vals.length/\c.vals.length<=400:=by
 unfold Curve.valid at h;split at h
 ·cases h
 ·omega
theorem mN(c:Curve):∃b:Bool,b=c.valid/\q0d 89 [c.av] (.bool b):=by
 by_cases hc:1<=c.vals.length/\c.vals.length<=400/\1<=c.per/\c.per<=120/\c.per<=c.vals.length/\0<=c.inc/\c.inc<=1073741824
 ·have ell:((c.vals.length:Int)-1).toNat=c.vals.length-1:=ω;have hv:c.valid=match runs 0 c.vals with
   |none=>false
   |some last=>if last=inf then decide (c.per=1)&&decide (c.inc=0)else decide (last<=c.vals.getD (c.vals.length-c.per).toNat 0+c.inc):=by
   unfold Curve.valid;rw[if_neg ω];rfl
  refine opE func89 ntmps89 results89 ?_;repeat'(first|refine' ag|fail)
  all_goals try first|exact ariA|(exfalso;omega)|(exfalso;dsimp only at *;omega)
  refine ae (ι:={j:Nat//j<=c.vals.length/\0<=tX c.vals j/\tX c.vals j<=inf/\runs 0 c.vals=runs (tX c.vals j) (c.vals.drop j)}) [1,3] [1] [] ⟨0,π _,Int.le_refl 0,(φ:(0:Int)<=inf),rfl⟩ (λ⟨j,_⟩=>c.vals.length-j) (λ⟨j,_⟩=>[(4,J j)]) (λ_=>[]) ?_ ?_
  ·exact⟨⟨rfl,rfl⟩,sq1,sq1⟩
  ·rintro⟨j,hj,hl0,hl1,hr⟩;conv=>whnf
   by_cases hjl:(j:Int)<c.vals.length
   ·obtain⟨v,ev⟩:∃v,v=c.vals.getD j 0:=⟨_,rfl⟩;have ev2:c.vals.getD (j:Int).toNat 0=v:=by rw[ev];rfl
    obtain⟨p,ep⟩:∃p,p=tX c.vals j:=⟨_,rfl⟩;have ep2:0<j->c.vals.getD ((j:Int)-1).toNat 0=p:=λh=>by
     rw[ep,(ω:((j:Int)-1).toNat=j-1)];cases j with
     |zero=>omega
     |succ j=>rfl
    have ep3:j=0->p=0:=λh=>by rw[ep,h];rfl
    rw[<-ep]at hl0 hl1 hr;have hs:=nN (ω:j<c.vals.length) hr;rw[<-ev]at hs;unfold inf at hs;by_cases hg:(v=4611686018427387904\/(0<=v/\v<=1073741824))/\p<=v
    ·rw[if_neg ω]at hs;repeat'(first|(refine Λ hjl λhb=>?_;conv=>whnf)|(exact aO [] ⟨j+1,ω,by show 0<=c.vals.getD j 0;rw[<-ev];omega,by show c.vals.getD j 0<=inf;rw[<-ev];unfold inf;omega,by show _=runs (c.vals.getD j 0) _;rw[<-ev];exact hs⟩ ⟨⟨rfl,rfl⟩,sq1,sq1⟩ (by first|omega|(dsimp only;omega)))|refine' ag|fail)
     all_goals try exact ariA
     all_goals(try(have ep4:=ep2 ω;rw[ep4]at *));(try rw[ev2]at *);exfalso;omega
    ·rw[if_pos ω]at hs;rw[hs]at hv;repeat'(first|(refine Λ hjl λhb=>?_;conv=>whnf)|refine' ag|fail)
     all_goals try first|exact ariA|exact ac ⟨false,rfl,hv.symm⟩
     all_goals(try(have ep4:=ep2 ω;rw[ep4]at *));(try rw[ev2]at *);exfalso;(try have ep5:=ep3 ω);omega
   ·have ej:j=c.vals.length:=ω;subst ej;rw[List.drop_eq_nil_of_le (ξ _)]at hr;have hlast:tX c.vals c.vals.length=c.vals.getD (c.vals.length-1) 0:=by
     cases hn:c.vals.length with
     |zero=>omega
     |succ k=>rfl
    rw[hlast]at hr hl0 hl1;have hq:=(lQ hr).2 _ (a8 (i:=((c.vals.length:Int)-c.per).toNat) ω);unfold inf at hq hl1;rw[<-ell]at hr hl0 hl1;have hr:runs 0 c.vals=some (c.vals.getD ((c.vals.length:Int)-1).toNat 0):=hr;rw[hr]at hv;dsimp only at hv;unfold inf at hv;repeat'(first|(refine Υ hjl λhb=>?_;conv=>whnf)|refine' ag|fail)
    all_goals try exact ariA
    ·exact ac ⟨_,rfl,by rw[hv,if_pos ‹_›,decide_eq_true (p:=c.per=1) ‹_›];rfl⟩
    ·exact ac ⟨false,rfl,by rw[hv,if_pos ‹_›,decide_eq_false (p:=c.per=1) ‹_›];rfl⟩
    ·exact ac ⟨_,rfl,by rw[hv,if_neg ‹_›]⟩
 ·have hv:c.valid=false:=by
   unfold Curve.valid;rw[if_pos ω]
  refine opE func89 ntmps89 results89 ?_;repeat'(first|refine' ag|fail)
  all_goals try first|exact ac ⟨false,rfl,hv.symm⟩
  all_goals exfalso;omega
theorem si(c:Curve)(hv:c.valid=true):∃b:Bool,(b=true↔c.vals.getD (c.vals.length-1) 0≠inf)/\q0d 90 [c.av] (.bool b):=by
 obtain⟨b,hb,p⟩:=mN c;rw[hv]at hb;subst hb;have hl:=Bu hv;have ell:((c.vals.length:Int)-1).toNat=c.vals.length-1:=ω;refine opE func90 ntmps90 results90 ?_;repeat'(first|refine' ag|refine ab p ?_)
 all_goals try first|exact ariA|(exfalso;omega)|(exfalso;dsimp only at *;omega)
 exact ac ⟨_,rfl,by
  show(!decide (c.vals.getD ((c.vals.length:Int)-1).toNat 0=4611686018427387904))=true↔_;rw[ell];simp[inf]⟩
theorem sj{α:Type}{l:List α}(h:l.Nodup){i j:Nat}(hi:i<l.length)(hj:j<l.length)(d:α)(e:l.getD i d=l.getD j d):i=j:=by
 rw[ψ,ψ,β hi,β hj]at e;exact(List.getElem_inj h).1 (by simpa using e)
theorem sk{α:Type}{l:List α}(h:l.Nodup)(d:α){j:Nat}(hj:j<l.length):l.getD j d∉l.take j:=by
 intro hm;obtain⟨i,hi,he⟩:=List.mem_iff_getElem.1 hm;rw[ψ,β hj]at he;simp only[List.length_take]at hi;rw[List.getElem_take]at he;have hi2:i<j:=ω;exact(List.pairwise_iff_getElem.1 h) i j ω hj hi2 he
theorem tY(n lo hi:Int)(h1:lo<=n)(h2:n<=hi):q0d 314 [J n,.ibox [J lo] 0,.ibox [J hi] 0] (.bool false):=by
 refine opG func314 ntmps314 results314 λ_ _ _=>?_;repeat'(first|refine' aj|fail)
 all_goals first|omega|exact Ψ|exact Θ (by rw[decide_eq_false ω];rfl)
theorem Ex(l:List Int)(lo hi:Int)(h:∀x∈l,lo<=x/\x<=hi)(hl:l.length<=2000):q0d 321 [ints l,.fn 314 [.ibox [J lo] 0,.ibox [J hi] 0]] (J (-1)):=by
 have hx:∀i:Nat,i<l.length->lo<=l.getD i 0/\l.getD i 0<=hi:=λi hi'=>h _ (by simp[hi']);refine opG func321 ntmps321 results321 λ_ _ _=>?_;repeat'(first|refine' aj|fail)
 refine⟨(aD (ι:={j:Nat//j<=l.length}) [0,1,7] [] [] ⟨0,π _⟩ (λj=>l.length-j.1) (λj=>[(8,J j.1)]) (λj=>[]) ?_ ?_).good⟩
 ·refine⟨⟨rfl,rfl⟩,?_,?_⟩;all_goals try refine' subB
 ·intro j;conv=>whnf
  obtain⟨j,hj⟩:=j;repeat'(first|refine' aj|(refine ab (tY _ lo hi (hx j (by dsimp only at *;omega)).1 (hx j (by dsimp only at *;omega)).2) ?_)|(refine aE [] ⟨j+1,?_⟩ ⟨⟨rfl,rfl⟩,?_,?_⟩ ?_))
  all_goals try dsimp only at hb
  all_goals try simp only[χ]at hb
  all_goals first|exact Ψ|exactλ_ _=>rfl|omega|(dsimp only;omega)|(dsimp only;unfold ah;omega)|((repeat'(first|exact True.intro|refine And.intro ?_ ?_))<;>first|rfl|exactλ_ _=>rfl|(refine Ξ ?_;dsimp only;omega)|((conv=>whnf)<;>first|exact Ψ|exact q0a|(refine Ξ ?_;dsimp only;omega)))
theorem GE(l:List Int)(lo hi:Int)(h:∀x∈l,lo<=x/\x<=hi)(hl:l.length<=2000):q0d 313 [ints l,.fn 314 [.ibox [J lo] 0,.ibox [J hi] 0]] (.bool false):=by
 refine opG func313 ntmps313 results313 λ_ _ _=>?_;repeat'(first|refine' aj|refine ab (Ex l lo hi h hl) ?_)
 all_goals try dsimp only at hb
 all_goals try simp only[χ]at hb
 all_goals first|exact Ψ|exactλ_ _=>rfl|omega|(dsimp only;omega)|(dsimp only;unfold ah;omega)|((repeat'(first|exact True.intro|refine And.intro ?_ ?_))<;>first|rfl|exactλ_ _=>rfl|(refine Ξ ?_;dsimp only;omega)|((conv=>whnf)<;>first|exact Ψ|exact q0a|(refine Ξ ?_;dsimp only;omega)))
theorem jW(l:List Int)(lo hi:Int)(h:∀x∈l,lo<=x/\x<=hi)(hl:l.length<=2000):q0d 311 [ints l,J lo,J hi] (.bool true):=by
 refine opG func311 ntmps311 results311 λ_ _ _=>?_;refine gv ?_;conv=>whnf
 refine j4 4 rfl rfl rfl ?_ ?_ ?_;rotate_left;rotate_left;refine j4 5 rfl rfl rfl ?_ ?_ ?_;rotate_left;rotate_left;refine aQ [] [] [] [(0,ints l),(4,.ibox [J lo] 0),(5,.ibox [J hi] 0)] [] ⟨⟨rfl,rfl⟩,?_,?_⟩ ?_;rotate_left;rotate_left;conv=>whnf
 repeat'(first|refine' aj|refine ab (GE l lo hi h hl) ?_)
 all_goals try refine' frzZ
 all_goals try dsimp only at hb
 all_goals try simp only[χ]at hb
 all_goals first|exact Ψ|exactλ_ _=>rfl|omega|(dsimp only;omega)|(dsimp only;unfold ah;omega)|((repeat'(first|exact True.intro|refine And.intro ?_ ?_))<;>first|rfl|exactλ_ _=>rfl|(refine Ξ ?_;dsimp only;omega)|((conv=>whnf)<;>first|exact Ψ|exact q0a|(refine Ξ ?_;dsimp only;omega)))
theorem gP(m:Nat)(hm:m<=10):q0d 297 [.bool true,.isl m 1 λ_=>[ints []]] (J 0):=by
 refine opG func297 ntmps297 results297 λ_ _ _=>?_;repeat'(first|refine' aj|fail)
 refine⟨(aD (ι:={j:Nat//j<=m}) [9,10] [] [] ⟨0,π _⟩ (λj=>m-j.1) (λj=>[(11,J j.1)]) (λj=>[]) ?_ ?_).good⟩
 ·refine⟨⟨rfl,rfl⟩,?_,?_⟩;all_goals try dsimp only at hb
  all_goals try simp only[χ]at hb
  all_goals first|exact Ψ|exactλ_ _=>rfl|omega|(dsimp only;omega)|(dsimp only;unfold ah;omega)|((repeat'(first|exact True.intro|refine And.intro ?_ ?_))<;>first|rfl|exactλ_ _=>rfl|(refine Ξ ?_;dsimp only;omega)|((conv=>whnf)<;>first|exact Ψ|exact q0a|(refine Ξ ?_;dsimp only;omega)))
 ·intro j;conv=>whnf
  obtain⟨j,hj⟩:=j;repeat'(first|refine' aj|(refine aE [] ⟨j+1,?_⟩ ⟨⟨rfl,rfl⟩,?_,?_⟩ ?_))
  all_goals try dsimp only at hb
  all_goals try simp only[χ]at hb
  all_goals first|exact Ψ|exactλ_ _=>rfl|omega|(dsimp only;omega)|(dsimp only;unfold ah;omega)|((repeat'(first|exact True.intro|refine And.intro ?_ ?_))<;>first|rfl|exactλ_ _=>rfl|(refine Ξ ?_;dsimp only;omega)|((conv=>whnf)<;>first|exact Ψ|exact q0a|(refine Ξ ?_;dsimp only;omega)))
theorem Bv(k cap cls:Int):q0d 294 [.agg [],Line.av ⟨k,cap,cls,[],[]⟩] (J 0):=by
 refine opG func294 ntmps294 results294 λ_ _ _=>?_;repeat'(first|refine' aj|(refine bM [.bool true] [] (gP 2 ω) rfl (ξ _) ?_ ?_ ?_;rotate_left;rotate_left;conv=>whnf))
 all_goals first|exact Ψ|exact aK (by repeat'(first|exact True.intro|rfl|refine And.intro ?_ ?_))
theorem zM(k cap cls:Int):q0d 298 [.agg [],Line.av ⟨k,cap,cls,[],[]⟩] (J 0):=by
 refine opG func298 ntmps298 results298 λ_ _ _=>?_;repeat'(first|refine' aj|(refine bM [.bool true] [] (gP 2 ω) rfl (ξ _) ?_ ?_ ?_;rotate_left;rotate_left;conv=>whnf))
 all_goals first|exact Ψ|exact aK (by repeat'(first|exact True.intro|rfl|refine And.intro ?_ ?_))
theorem zN(k cap cls:Int)(ws:List Int)(hl:cls=ws.length)(h:∀x∈ws,1<=x/\x<=20)(hs:ws.length<=2000):q0d 308 [.agg [],Line.av ⟨k,cap,cls,ws,[]⟩] (J 0):=by
 subst hl;refine opG func308 ntmps308 results308 λ_ _ _=>?_;repeat'(first|refine' aj|refine ab (jW ws 1 20 h hs) ?_|(refine bM [.bool true] [] (gP 1 ω) rfl (ξ _) ?_ ?_ ?_;rotate_left;rotate_left;conv=>whnf))
 all_goals first|exact Ψ|exact absurd rfl hb|exact aK (by repeat'(first|exact True.intro|rfl|refine And.intro ?_ ?_))
theorem sm(k cap cls:Int)(ws:List Int)(hl:cls=ws.length)(h:∀x∈ws,1<=x/\x<=6000)(hs:ws.length<=2000):q0d 323 [.agg [],Line.av ⟨k,cap,cls,ws,[]⟩] (J 0):=by
 subst hl;refine opG func323 ntmps323 results323 λ_ _ _=>?_;repeat'(first|refine' aj|refine ab (jW ws 1 6000 h hs) ?_|(refine bM [.bool true] [] (gP 1 ω) rfl (ξ _) ?_ ?_ ?_;rotate_left;rotate_left;conv=>whnf))
 all_goals first|exact Ψ|exact absurd rfl hb|exact aK (by repeat'(first|exact True.intro|rfl|refine And.intro ?_ ?_))
theorem zO(k cap cls:Int)(sl:List Int)(h1:1<=sl.length)(h2:sl.length<=40)(hc:1<=cls/\cls<=1000)(h:∀x∈sl,-1<=x/\x<=cls-1):q0d 333 [.agg [],Line.av ⟨k,cap,cls,[],sl⟩] (J 0):=by
 refine opG func333 ntmps333 results333 λ_ _ _=>?_;repeat'(first|refine' aj|(refine ab (jW sl (-1) (cls-1) h ω) ?_)|(refine bM [.bool true] [] (gP 1 ω) rfl (ξ _) ?_ ?_ ?_;rotate_left;rotate_left;conv=>whnf))
 all_goals try dsimp only at hb
 all_goals first|exact Ψ|omega|(dsimp only;unfold ah;omega)|exact aK (by repeat'(first|exact True.intro|rfl|refine And.intro ?_ ?_))
theorem iW(l:Line)(t:Nat)(f:FuncId)(hc:1<=l.cap/\l.cap<=4000)(hs:1<=l.classes/\l.classes<=6)(hk:q0d 96 [J l.kind] (.tup [.iface t (.agg []),.bool true]))
  (hm:∀w,(method (prog.types.size+Made.depth) t (.agg #[]) (nmOf 0)).run prog w=.ok (f,.agg #[]) w) (hf:q0d f [.agg [],l.av] (J 0)):q0d 60 [l.av] (J 0):=by
 refine opG func60 ntmps60 results60 λ_ _ _=>?_;repeat'(first|refine' aj|refine ab hk ?_|(refine VInv.mk ⟨f,λw=>Eq.trans (by kernel_rfl) (hm w),?_⟩;refine ar hf ?_;conv=>whnf))
 all_goals first|omega|exact Ψ
theorem nR(l:Line)(h:LineOk l):q0d 60 [l.av] (J 0):=by
 obtain⟨hc,hs,hk⟩:=h;obtain⟨k,cap,cls,ws,sl⟩:=l;rcases hk with⟨h1|h1,h2,h3⟩|⟨h1,h2,h3,h4⟩|⟨h1,h2,h3,h4⟩|⟨h1,h2,h3,h4,h5⟩
 ·dsimp only at h1 h2 h3 hc hs;subst h1;subst h2;subst h3;exact iW _ 179 294 hc hs qB rP (Bv _ _ _)
 ·dsimp only at h1 h2 h3 hc hs;subst h1;subst h2;subst h3;exact iW _ 180 298 hc hs qC rQ (zM _ _ _)
 ·dsimp only at h1 h2 h3 h4 hc hs;subst h1;subst h4;exact iW _ 181 308 hc hs qD rR (zN _ _ _ _ h2 h3 ω)
 ·dsimp only at h1 h2 h3 h4 hc hs;subst h1;subst h4;exact iW _ 182 323 hc hs qE rT (sm _ _ _ _ h2 h3 ω)
 ·dsimp only at h1 h2 h3 h4 h5 hc hs;subst h1;subst h2;exact iW _ 183 333 hc hs qF rU (zO _ _ _ _ h3 h4 ⟨hs.1,ω⟩ h5)
theorem tZ(ls:List Line)(f:Flow)(h:FlowOk ls f):q0d 62 [f.av] (J 0):=by
 have hv:=dF f.con;rw[h.valid]at hv;have hz:=h.zero;have hs:=h.sizes;have hl:=h.len;refine opG func62 ntmps62 results62 λ_ _ _=>?_;repeat'(first|refine' aj|refine ab hv ?_|refine ab (wt f.con h.valid h.len h.fin) ?_)
 all_goals first|omega|exact Ψ|exact absurd h.zero hb
theorem zP(n:Net)(f:Flow)(h:FlowOk n.lines f):q0d 61 [n.av,f.av] (J 0):=by
 have hne:=h.ne;have hrt:∀j:Nat,j<f.route.length->f.route.getD j 0∈f.route:=λj hj=>by simp[hj]
 have hnt:∀j:Nat,j<f.route.length->f.route.getD j 0∉f.route.take j:=λj hj=>sk h.nodup 0 hj;have hln:∀j:Nat,j<f.route.length->0<=f.route.getD j 0/\f.route.getD j 0<n.lines.length:=λj hj=>h.lines _ (hrt j hj);have hcl:∀j:Nat,j<f.route.length->f.class_<(n.lines.getD (f.route.getD j 0).toNat default).classes:=λj hj=>h.cls2 _ (hrt j hj);have hc0:=h.cls;refine opG func61 ntmps61 results61 λ_ _ _=>?_;repeat'(first|refine' aj|fail)
 ·omega
 ·omega
 refine⟨(aD (ι:={j:Nat//j<=f.route.length}) [2,3,5,18,19] [2,3] [] ⟨0,π _⟩ (λj=>f.route.length-j.1) (λj=>[(20,J j.1)]) (λj=>[(16,some (.map (Ew (f.route.take j.1))))]) ?_ ?_).good⟩
 ·refine⟨⟨rfl,rfl⟩,?_,?_⟩;all_goals try refine' subB
  all_goals exact xR
 ·intro j;conv=>whnf
  obtain⟨j,hj⟩:=j;repeat(refine gv ?_;conv=>whnf)
  refine aa (λhb=>?_) (λhb=>?_)
  ·have hlt : j<f.route.length:=by dsimp only at hb;omega
   have h1:=hln j hlt;have h2:=hcl j hlt;conv=>whnf
   repeat'(first|refine' aj|(refine VLook.mk ⟨none,tW 0 (hnt j hlt),?_⟩;conv=>whnf)|(refine aE [] ⟨j+1,?_⟩ ⟨⟨rfl,rfl⟩,?_,?_⟩ ?_))
   all_goals try dsimp only at hb
   all_goals try simp only[χ]at hb
   all_goals try first|omega|(dsimp only;omega)|(dsimp only;unfold ah;omega)|(dsimp only;simp only[χ];omega)
   ·(repeat'(first|exact True.intro|refine And.intro ?_ ?_))<;>first
     |rfl
     |exact xR
     | (conv => whnf
        first
         | (show ObLe (.map (Ew (f.route.take j)++[(J (f.route.getD j 0),.bool true)])) (.map (List.map _ (Ew (f.route.take (j+1)))))
            refine ObLe.of_eq ?_;rw[jN hlt];simp[Ew,reV];rfl)
         |exact q0a)
   ·all_goals try refine' subB
  ·conv=>whnf
   repeat'(first|refine' aj|fail)
   exact Ψ
theorem GF(keys:List ByteArray)(nm:ByteArray)(hw:q0d 95 [.str nm] (.bool true))(hn:nm∉keys):q0c 59 [.mref 37,.str nm] [(37,.map (jG keys))] (J 0) [(37,.map (jG (keys++[nm])))]:=by
 refine opG func59 ntmps59 results59 (λ_ _ _=>?_) (hcl:=⟨rfl,rfl,rfl,bD gi,bD gi,rfl⟩);repeat'(first|refine' fX|refine ab hw ?_|(refine VLook.mk ⟨none,lS 0 hn,?_⟩;conv=>whnf))
 ·exact Ψ
 ·show some (LObj.map (jG keys++[(.str nm,.bool true)]))=_;simp[jG]
theorem GG(keys:List ByteArray)(nm:ByteArray)(hw:q0d 95 [.str nm] (.bool true))(hn:nm∉keys):q0c 59 [.mref 62,.str nm] [(62,.map (jG keys))] (J 0) [(62,.map (jG (keys++[nm])))]:=by
 refine opG func59 ntmps59 results59 (λ_ _ _=>?_) (hcl:=⟨rfl,rfl,rfl,bD gi,bD gi,rfl⟩);repeat'(first|refine' fX|refine ab hw ?_|(refine VLook.mk ⟨none,lS 0 hn,?_⟩;conv=>whnf))
 ·exact Ψ
 ·show some (LObj.map (jG keys++[(.str nm,.bool true)]))=_;simp[jG]
theorem il(n:Net)(h:NetOk n):q0d 40 [n.av] (J 0):=by
 have hlen:=h.len;have hfl:=h.flen;have hnl:=h.nlen;have hl:∀j:Nat,j<n.lines.length->LineOk (n.lines.getD j default):=λj hj=>h.line _ (by simp[hj]);have hw:∀j:Nat,j<n.lines.length->mM (n.names.getD j .empty):=λj hj=>h.word _ (by simp[hnl,hj]);have hnt:∀j:Nat,j<n.lines.length->n.names.getD j .empty∉n.names.take j:=λj hj=>Bt h.nodup ω _;have hf:∀j:Nat,j<n.flows.length->FlowOk n.lines (n.flows.getD j default):=λj hj=>h.flow _ (by simp[hj]);have hfw:∀j:Nat,j<n.flows.length->mM (n.flows.getD j default).name:=λj hj=>h.fword _ (by simp[hj]);have hfe:∀j:Nat,j<n.flows.length->(n.flows.map Flow.name).getD j .empty=(n.flows.getD j default).name:=λj hj=>by simp[hj]
 have hfn:∀j:Nat,j<n.flows.length->(n.flows.getD j default).name∉(n.flows.map Flow.name).take j:=λj hj=>by
  rw[<-hfe j hj];exact Bt h.fnodup (by simpa using hj) _
 refine opG func40 ntmps40 results40 λ_ _ _=>?_;repeat'(first|refine' aj|fail)
 all_goals try omega
 refine⟨(aD (ι:={j:Nat//j<=n.lines.length}) [1,3,39,40] [1] [] ⟨0,π _⟩ (λj=>n.lines.length-j.1) (λj=>[(41,J j.1)]) (λj=>[(37,some (.map (jG (n.names.take j.1))))]) ?_ ?_).good⟩
 ·refine⟨⟨rfl,rfl⟩,?_,?_⟩;all_goals try refine' subB
  all_goals exact gi
 ·intro j;conv=>whnf
  obtain⟨j,hj⟩:=j;repeat(refine gv ?_;conv=>whnf)
  refine aa (λhb=>?_) (λhb=>?_)
  ·have hlt : j<n.lines.length:=by dsimp only at hb;omega
   have h1:=GF (n.names.take j) (n.names.getD j .empty) (Br (hw j hlt)) (hnt j hlt);have h2:=nR _ (hl j hlt);conv=>whnf
   repeat'(first|refine' aj|refine bT h1 ?_|refine ab h2 ?_|(refine aE [] ⟨j+1,?_⟩ ⟨⟨rfl,rfl⟩,?_,?_⟩ ?_))
   all_goals try dsimp only at hb
   all_goals try first|omega|(dsimp only;omega)|(dsimp only;unfold ah;omega)|(dsimp only;simp only[χ];omega)
   ·(repeat'(first|exact True.intro|refine And.intro ?_ ?_))<;>first
     |rfl
     |exact gi
     | (conv => whnf
        first
         | (show ObLe (.map (jG (n.names.take j++[n.names.getD j .empty]))) (.map (List.map _ (jG (n.names.take (j+1)))))
            refine ObLe.of_eq ?_;rw[takeS (ω:j<n.names.length) .empty];simp[jG,reV];rfl)
         |exact q0a)
   ·all_goals try refine' subB
  ·conv => whnf
   repeat'(first|refine' aj|fail)
   refine⟨(aD (ι:={j:Nat//j<=n.flows.length}) [1,8,64,65] [1] [] ⟨0,π _⟩ (λj=>n.flows.length-j.1) (λj=>[(66,J j.1)]) (λj=>[(62,some (.map (jG ((n.flows.map Flow.name).take j.1))))]) ?_ ?_).good⟩
   ·refine⟨⟨rfl,rfl⟩,?_,?_⟩;all_goals try refine' subB
    all_goals exact gi
   ·intro i;conv=>whnf
    obtain⟨i,hi⟩:=i;repeat(refine gv ?_;conv=>whnf)
    refine aa (λhb=>?_) (λhb=>?_)
    ·have hlt : i<n.flows.length:=by dsimp only at hb;omega
     have h1:=GG ((n.flows.map Flow.name).take i) (n.flows.getD i default).name (Br (hfw i hlt)) (hfn i hlt);have h2:=zP n _ (hf i hlt);have h3:=tZ _ _ (hf i hlt);conv=>whnf
     repeat'(first|refine' aj|refine bT h1 ?_|refine ab h2 ?_|refine ab h3 ?_|(refine aE [] ⟨i+1,?_⟩ ⟨⟨rfl,rfl⟩,?_,?_⟩ ?_))
     all_goals try dsimp only at hb
     all_goals try first|omega|(dsimp only;omega)|(dsimp only;unfold ah;omega)|(dsimp only;simp only[χ];omega)
     ·(repeat'(first|exact True.intro|refine And.intro ?_ ?_))<;>first
       |rfl
       |exact gi
       | (conv => whnf
          first
           | (show ObLe (.map (jG ((n.flows.map Flow.name).take i++[(n.flows.getD i default).name]))) (.map (List.map _ (jG ((n.flows.map Flow.name).take (i+1)))))
              refine ObLe.of_eq ?_;rw[takeS (show i<(n.flows.map Flow.name).length by simpa using hlt) .empty,hfe i hlt];simp[jG,reV];rfl)
           |exact q0a)
     ·all_goals try refine' subB
    ·conv=>whnf
     repeat'(first|refine' aj|fail)
     exact Ψ
theorem iX(l:List Int)(hl:l.length<=100000)(lo hi:Int)(h:∀x∈l,lo<=x/\x<=hi):∃b:Bool,b=true/\q0d 88 [ints l,J lo,J hi] (.bool b):=by
 refine opE func88 ntmps88 results88 ?_;repeat'(first|refine' bk|fail)
 refine ae (ι:={i:Nat//i<=l.length}) [0,1,2] [] [] ⟨0,ω⟩ (λ⟨i,_⟩=>l.length-i) (λ⟨i,_⟩=>[(7,J i)]) (λ_=>[]) ?_ ?_
 ·exact⟨⟨rfl,rfl⟩,sq1,sq1⟩
 ·rintro⟨i,hi1⟩;conv=>whnf
  have b1:i<l.length->lo<=l.getD (i:Int).toNat 0/\l.getD (i:Int).toNat 0<=hi:=λhi=>h _ (a8 ω);repeat'(first|(exact aL [] ⟨i+1,ω⟩)|refine' bk|fail)
  all_goals first|exact⟨true,rfl,rfl⟩|exact ariA|exact⟨false,rfl,by exfalso;omega⟩
theorem kE(l:Line)(h:LineOk l):∃e:Int,e=0/\q0d 54 [l.av] (J e):=by
 obtain⟨hc,hs,hk⟩:=h;obtain⟨k,cap,cls,ws,sl⟩:=l;dsimp only at hc hs;rcases hk with⟨h1|h1,h2,h3⟩|⟨h1,h2,h3,h4⟩|⟨h1,h2,h3,h4⟩|⟨h1,h2,h3,h4,h5⟩
 ·dsimp only at h1 h2 h3;subst h1;subst h2;subst h3;refine opE func54 ntmps54 results54 ?_;repeat'(first|refine' bk|fail)
  all_goals first|exact⟨0,rfl,rfl⟩|exact ariA|exact⟨_,rfl,by exfalso;simp at *;omega⟩
 ·dsimp only at h1 h2 h3;subst h1;subst h2;subst h3;refine opE func54 ntmps54 results54 ?_;repeat'(first|refine' bk|fail)
  all_goals first|exact⟨0,rfl,rfl⟩|exact ariA|exact⟨_,rfl,by exfalso;simp at *;omega⟩
 ·dsimp only at h1 h2 h3 h4;subst h1;subst h4;obtain⟨_,rfl,p1⟩:=iX ws ω 1 20 h3;refine opE func54 ntmps54 results54 ?_;repeat'(first|refine' bk|refine ab p1 ?_)
  all_goals first|exact⟨0,rfl,rfl⟩|exact ariA|exact⟨_,rfl,by exfalso;simp at *;omega⟩
 ·dsimp only at h1 h2 h3 h4;subst h1;subst h4;obtain⟨_,rfl,p1⟩:=iX ws ω 1 6000 h3;refine opE func54 ntmps54 results54 ?_;repeat'(first|refine' bk|refine ab p1 ?_)
  all_goals first|exact⟨0,rfl,rfl⟩|exact ariA|exact⟨_,rfl,by exfalso;simp at *;omega⟩
 ·dsimp only at h1 h2 h3 h4 h5;subst h1;subst h2;obtain⟨_,rfl,p1⟩:=iX sl ω (-1) (cls-1) h5;refine opE func54 ntmps54 results54 ?_;repeat'(first|refine' bk|refine ab p1 ?_)
  all_goals first|exact⟨0,rfl,rfl⟩|exact ariA|exact⟨_,rfl,by exfalso;simp at *;omega⟩
structure ShapeOk(n:Net)(d:Xa):Prop where
 len:d.length=n.lines.length
 row:∀i:Nat,i<n.lines.length->((d.getD i []).length:Int)=(n.lines.getD i default).classes
 val:∀i j:Nat,i<n.lines.length->j<(d.getD i []).length-> -1<=(d.getD i []).getD j 0/\(d.getD i []).getD j 0<=400
theorem cN(n:Net)(d:Xa)(h:NetOk n)(hd:ShapeOk n d):q0d 76 [n.av,a9 d] (.bool true):=by
 have hlen:=h.len;have hdl:=hd.len;have hrow:=hd.row;have hval:=hd.val;have hcl:∀j:Nat,j<n.lines.length->(n.lines.getD j default).classes<=6:=λj hj=>(h.line _ (by simp[hj])).cls.2;refine opG func76 ntmps76 results76 λ_ _ _=>?_;repeat'(first|refine' aj|refine ab (il n h) ?_)
 all_goals try omega
 refine⟨(aD (ι:={j:Nat//j<=n.lines.length}) [2,20,21] [2] [] ⟨0,π _⟩ (λj=>n.lines.length-j.1) (λj=>[(22,J j.1)]) (λj=>[]) ?_ ?_).good⟩
 ·refine⟨⟨rfl,rfl⟩,?_,?_⟩;all_goals try refine' subB
 ·intro j;conv=>whnf
  obtain⟨j,hj⟩:=j;repeat(refine gv ?_;conv=>whnf)
  refine aa (λhb=>?_) (λhb=>?_)
  ·have hlt:j<n.lines.length:=by dsimp only at hb;omega
   have h1:=hrow j hlt;have h2:=hval j;have h3:=hcl j hlt;conv=>whnf
   repeat'(first|refine' aj|fail)
   all_goals try dsimp only at hb
   all_goals try simp only[χ]at hb
   all_goals try first|omega|(dsimp only;omega)|(dsimp only;simp only[χ];omega)
   refine⟨(aD (ι:={c:Nat//c<=(d.getD j []).length}) [2,20,21,22,36,37] [2] [] ⟨0,π _⟩ (λc=>(d.getD j []).length-c.1) (λc=>[(38,J c.1)]) (λc=>[]) ?_ ?_).good⟩
   ·refine⟨⟨rfl,rfl⟩,?_,?_⟩;all_goals try refine' subB
   ·intro c;conv=>whnf
    obtain⟨c,hcc⟩:=c;repeat(refine gv ?_;conv=>whnf)
    refine aa (λhb=>?_) (λhb=>?_)
    ·have hlc:c<(d.getD j []).length:=by dsimp only at hb;simp only[χ]at hb;omega
     have h4:=h2 c hlt hlc;conv=>whnf
     repeat'(first|refine' aj|(refine aE [] ⟨c+1,?_⟩ ⟨⟨rfl,rfl⟩,?_,?_⟩ ?_))
     all_goals try dsimp only at hb
     all_goals try simp only[χ]at hb
     all_goals try first|omega|(dsimp only;omega)|(dsimp only;unfold ah;omega)|(dsimp only;simp only[χ];omega)
     ·all_goals try refine' subB
     ·all_goals try refine' subB
    ·conv=>whnf
     repeat'(first|refine' aj|(refine aE [] ⟨j+1,?_⟩ ⟨⟨rfl,rfl⟩,?_,?_⟩ ?_))
     all_goals try first|omega|(dsimp only;omega)|(dsimp only;unfold ah;omega)
     ·all_goals try refine' subB
     ·all_goals try refine' subB
  ·conv=>whnf
   repeat'(first|refine' aj|fail)
   exact Ψ
theorem cz{l:List Int}{j:Nat}(h:j<l.length):l.drop j=l.getD j 0::l.drop (j+1):=by
 rw[List.drop_eq_getElem_cons h];simp[h]
def bu(x:Int):List Int->Int->Int
 |[],_=>-1
 |y::l,k=>if y=x then k else bu x l (k+1)
theorem sn(n:Net)(i:Nat)(x:Int)(hi:i<n.flows.length)(_hl:n.flows.length<=1000)(hr:(n.flows.getD i default).route.length<=1000):q0d 94 [n.av,J i,J x] (J (bu x (n.flows.getD i default).route 0)):=by
 obtain⟨rt,hrt⟩:∃rt,rt=(n.flows.getD i default).route:=⟨_,rfl⟩;rw[<-hrt]at hr⊢;refine opG func94 ntmps94 results94 λ_ _ _=>?_;repeat'(first|refine' aj|fail)
 all_goals try omega
 refine⟨(aD (ι:={j:Nat//j<=rt.length/\bu x (rt.drop j) j=bu x rt 0}) [1,2,3] [3] [] ⟨0,π _,rfl⟩ (λj=>rt.length-j.1) (λj=>[(7,J j.1)]) (λj=>[]) ?_ ?_).good⟩
 ·refine⟨⟨rfl,rfl⟩,?_,?_⟩;all_goals try refine' subB
 ·intro j;conv=>whnf
  obtain⟨j,hj,hjv⟩:=j;have hjd:j<rt.length->(if rt.getD j 0=x then(j:Int)else bu x (rt.drop (j+1)) (j+1))=bu x rt 0:=λh=>by
   rw[cz h]at hjv;exact hjv
  repeat'(first|refine' aj|(refine aE [] ⟨j+1,?_,?_⟩ ⟨⟨rfl,rfl⟩,?_,?_⟩ ?_))
  all_goals try dsimp only at *
  all_goals try simp only[χ,<-hrt]at *
  all_goals try exact ariA
  ·have e:=hjd ω;rw[if_pos hb]at e;rw[<-e];exact Ψ
  ·have e:=hjd ω;rw[if_neg hb]at e;exact e
  ·all_goals try refine' subB
  ·all_goals try refine' subB
  ·have e:rt.drop j=[]:=List.drop_eq_nil_of_le ω;rw[e]at hjv;rw[<-hjv];exact Ψ
def dAt(d:Xa)(c x:Int):Int:=(d.getD x.toNat []).getD c.toNat 0
def bF(δ:Int->Int):List Int->Int->Option Int
 |[],s=>some s
 |x::r,s=>if δ x<0 then none else bF δ r (s+δ x)
def ua(d:Xa)(f:Flow):Option Int:=bF (dAt d f.class_) f.route (f.route.length-1)
def zQ(o:Option Int):AV:=.tup [J (o.getD 0),.bool o.isSome]
theorem Ey(n:Net)(d:Xa)(h:NetOk n)(hd:ShapeOk n d)(i:Nat)(hi:i<n.flows.length) :
  q0d 69 [n.av,a9 d,J i] (zQ (ua d (n.flows.getD i default))):=by
 obtain⟨f,ef⟩:∃f,f=n.flows.getD i default:=⟨_,rfl⟩;have hfo:FlowOk n.lines f:=by rw[ef];exact h.flow _ (by simp[hi])
 have hfl:=h.flen;have hll:=h.len;have hne:=hfo.ne;have hc0:=hfo.cls;have hdl:=hd.len;obtain⟨rt,ert⟩:∃rt,rt=f.route:=⟨_,rfl⟩;obtain⟨c,ec⟩:∃c,c=f.class_:=⟨_,rfl⟩;have hall:∀j:Nat,j<rt.length->(0<=rt.getD j 0/\rt.getD j 0<d.length)/\(0<=c/\c<((d.getD (rt.getD j 0).toNat []).length:Int))/\-1<=dAt d c (rt.getD j 0)/\dAt d c (rt.getD j 0)<=400:=λj hj=>by
  have hm:rt.getD j 0∈f.route:=by rw[<-ert];simp[hj]
  have h1:=hfo.lines _ hm;have h2:=hfo.cls2 _ hm;have h3:=hd.row (rt.getD j 0).toNat ω;have h4:=hd.val (rt.getD j 0).toNat c.toNat ω (by rw[ec];omega);refine⟨⟨h1.1,ω⟩,⟨ω,ω⟩,h4.1,h4.2⟩
 rw[show ua d (n.flows.getD i default)=bF (dAt d c) rt (rt.length-1) by rw[ua,<-ef,<-ec,<-ert]];rw[<-ert]at hne;refine opG func69 ntmps69 results69 λ_ _ _=>?_;repeat'(first|refine' aj|refine ab (cN n d h hd) ?_)
 all_goals try omega
 ·refine⟨?_⟩;refine aQ [1,8] [] [] [(37,ints rt),(38,J rt.length),(9,J (rt.length-1)),(39,J 0)] [(8,some (.box f.cells))] ⟨⟨rfl,rfl⟩,?_,?_⟩ ?_
  ·rw[ert,ef];all_goals try refine' subB
  ·rw[ert,ef];all_goals try refine' subB
  conv=>whnf
  refine(aD (ι:={p:Nat×Int//p.1<=rt.length/\0<=p.2/\p.2<=3+400*p.1/\bF (dAt d c) (rt.drop p.1) p.2=bF (dAt d c) rt (rt.length-1)}) [1,8,37,38] [8] [] ⟨(0,(rt.length:Int)-1),π _,κ,κ,rfl⟩ (λj=>rt.length-j.1.1) (λj=>[(9,J j.1.2),(39,J j.1.1)]) (λj=>[]) ?_ ?_).good
  ·refine⟨⟨rfl,rfl⟩,?_,?_⟩;all_goals try refine' subB
  ·intro j;conv=>whnf
   obtain⟨⟨j,s⟩,hj,hs0,hs1,hjv⟩:=j;repeat(refine gv ?_;conv=>whnf)
   refine aa (λhb=>?_) (λhb=>?_)
   ·have hlt:j<rt.length:=by dsimp only at hb;omega
    have hA:=hall j hlt;have hjd:=cz hlt;dsimp only at hjv hs0 hs1;rw[hjd,bF]at hjv;have eδ:(d.getD (rt.getD j 0).toNat []).getD f.class_.toNat 0=dAt d c (rt.getD j 0):=by rw[ec];rfl
    conv=>whnf
    repeat'(first|refine' aj|(refine aE [] ⟨(j+1,s+dAt d c (rt.getD j 0)),?_,?_,?_,?_⟩ ⟨⟨rfl,rfl⟩,?_,?_⟩ ?_))
    all_goals dsimp only at *
    all_goals simp only[χ,eδ]at *
    all_goals try exact ariA
    all_goals try(rw[if_neg hb]at hjv;exact hjv)
    all_goals try(rw[if_pos hb]at hjv;rw[<-hjv];exact Ψ)
    ·all_goals try refine' subB
    ·all_goals try refine' subB
   ·conv=>whnf
    repeat'(first|refine' aj|fail)
    have e:rt.drop j=[]:=List.drop_eq_nil_of_le (by dsimp only at hb;omega);dsimp only at hjv;rw[e,bF]at hjv;dsimp only;rw[<-hjv];exact Ψ
 ·rw[χ,<-ef,<-ert];unfold ah;omega
theorem im(i:Nat):mM (kD i):=q9 i
theorem io(i:Nat):mM (cZ i):=qA i
theorem jO:∀n,∀x∈b8 n,mM x
 |0,_,h=>by cases h
 |n+1,x,h=>by
  rcases List.mem_append.1 h with h|h
  ·exact jO n x h
  ·rw[List.mem_singleton.1 h];exact im n
theorem nS{n:Nat}(h:n<=4):(b8 n).Nodup:=by
 rcases(ω:n=0\/n=1\/n=2\/n=3\/n=4)with rfl|rfl|rfl|rfl|rfl<;>decide
def iY:Nat->List ByteArray
 |0=>[]
 |n+1=>iY n++[cZ n]
theorem nT{n:Nat}(h:n<=5):(iY n).Nodup:=by
 rcases(ω:n=0\/n=1\/n=2\/n=3\/n=4\/n=5)with rfl|rfl|rfl|rfl|rfl|rfl<;>decide
theorem ng{P:Int->Prop}{l:List Int}{f:Rd->Int×Rd}(hl:∀x∈l,P x)(hf:∀s,P (f s).1):∀(n:Nat) (s:Rd),∀x∈(Rd.many l f n s).1,P x
 |0,_,x,h=>hl x h
 |n+1,s,x,h=>by
  rcases List.mem_append.1 h with h|h
  ·exact ng hl hf n s x h
  ·rw[List.mem_singleton.1 h];exact hf _
theorem Bw:∀(n:Nat),∀x∈upto n,0<=x/\x<n
 |0,_,h=>by cases h
 |n+1,x,h=>by
  rcases List.mem_append.1 h with h|h
  ·have:=Bw n x h;omega
  ·rw[List.mem_singleton.1 h];omega
theorem uc(s:Rd){cap classes:Int}(hc:1<=cap/\cap<=4000)(h:1<=classes/\classes<=6):LineOk (s.port2 cap classes).1/\(s.port2 cap classes).1.classes=classes:=by
 have h3:=mod_lt (x:=(s.n 4).2.raw.1) (n:=3) ω;unfold Rd.port2;dsimp only;split
 ·exact⟨⟨hc,h,.inl ⟨.inr rfl,rfl,rfl⟩⟩,rfl⟩
 ·split
  ·refine⟨⟨hc,h,.inr (.inl ⟨rfl,?_,?_,rfl⟩)⟩,rfl⟩
   ·show classes=((Rd.many [] _ _ _).1.length:Int);rw[Rd.many_len];show classes=((0+classes.toNat:Nat):Int);omega
   ·refine ng (P:=λx=>1<=x/\x<=20) (l:=[]) (λ_ h=>by cases h) (λs=>?_) _ _;have:1<=(s.range 1 3).1/\(s.range 1 3).1<=3:=bX rfl ω;omega
  ·split
   ·refine⟨⟨hc,h,.inr (.inr (.inl ⟨rfl,?_,?_,rfl⟩))⟩,rfl⟩
    ·show classes=((Rd.many [] _ _ _).1.length:Int);rw[Rd.many_len];show classes=((0+classes.toNat:Nat):Int);omega
    ·refine ng (P:=λx=>1<=x/\x<=6000) (l:=[]) (λ_ h=>by cases h) (λs=>?_) _ _;have:8<=(s.range 8 20).1/\(s.range 8 20).1<=20:=bX rfl ω;omega
   ·refine⟨⟨hc,h,.inr (.inr (.inr ⟨rfl,rfl,?_,?_,?_⟩))⟩,rfl⟩
    ·show 1<=(Rd.many _ _ _ _).1.length;rw[Rd.many_len,kC];omega
    ·show(Rd.many _ _ _ _).1.length<=40;rw[Rd.many_len,kC];show _+(mod (s.n 4).2.raw.1 3).toNat<=40;omega
    ·refine ng (P:=λx=>-1<=x/\x<=classes-1) (λx hx=>?_) (λs=>?_) _ _
     ·have:=Bw _ x hx;omega
     ·exact bX rfl ω
theorem Ez(s:Rd){classes:Int}(h:1<=classes/\classes<=6):LineOk (s.port classes).1/\(s.port classes).1.classes=classes:=by
 have hr:4<=(s.range 4 24).1/\(s.range 4 24).1<=24:=bX rfl ω;have hc:1<=(s.range 4 24).1/\(s.range 4 24).1<=4000:=ω;unfold Rd.port;split
 ·split
  ·exact⟨⟨hc,h,.inl ⟨.inl rfl,rfl,rfl⟩⟩,rfl⟩
  ·exact uc _ hc h
 ·exact uc _ hc h
theorem nU{k:Int}(h:1<=k/\k<=6):∀(n:Nat) (s:Rd),∀l∈(Rd.lines k n s).1,LineOk l/\l.classes=k
 |0,_,_,h=>by cases h
 |n+1,s,l,hl=>by
  rcases List.mem_append.1 hl with h'|h'
  ·exact nU h n s l h'
  ·rw[List.mem_singleton.1 h'];exact Ez _ h
def kG(n:Int)(l:List Int):Bool:=decide (1<=l.length/\l.length<=4)&&l.all (λx=>decide (0<=x/\x<n))&&decide l.Nodup
theorem pV{n:Int}{l:List Int}(h:kG n l=true):(1<=l.length/\l.length<=4)/\(∀x∈l,0<=x/\x<n)/\l.Nodup:=by
 simp only[kG,Bool.and_eq_true,decide_eq_true_eq,List.all_eq_true]at h;exact⟨h.1.1,h.1.2,h.2⟩
def xS(n:Nat):Bool:=(List.range n).all λw=>[1,(n:Int)-1].all λt=>(List.range (min 3 n)).all λh=>kG n (ij (hops w t n (h+1)).1)
theorem Bx{n:Nat}(h0:1<=n)(h1:n<=4):xS n=true:=by
 rcases(ω:n=1\/n=2\/n=3\/n=4)with rfl|rfl|rfl|rfl<;>kernel_rfl
theorem E0{n:Nat}(h0:1<=n)(h1:n<=4){w t h:Int}(hw:0<=w/\w<n)(ht:t∈[1,(n:Int)-1])(hh:1<=h/\h<=min 3 (n:Int)):kG n (ij (hops w t n h.toNat).1)=true:=by
 have h2:=Bx h0 h1;simp only[xS,List.all_eq_true]at h2;have h3:=h2 w.toNat (List.mem_range.2 ω) t ht (h.toNat-1) (List.mem_range.2 ω);rw[(ω:((w.toNat:Nat):Int)=w),(ω:h.toNat-1+1=h.toNat)]at h3;exact h3
theorem xT{b:Int}(h:b<=1073741824):∀n:Nat,runs b (List.replicate n b)=some b
 |0=>rfl
 |n+1=>by
  rw[List.replicate_succ,runs,if_neg ω];exact xT h n
theorem xU{b:Int}{n i:Nat}(h:i<n):(List.replicate n b).getD i 0=b:=by
 simp[h]
structure ConOk(c:Curve):Prop where
 valid:c.valid=true
 len:1<=c.vals.length/\c.vals.length<=400
 zero:c.vals.getD 0 0=0
 fin:c.vals.getD (c.vals.length-1) 0≠inf
theorem con_ok{a b c:Int}(ha:0<=a/\a<=1000)(hb:1<=b/\b<=100)(hc:0<=c/\c<=1000):ConOk ⟨0::List.replicate b.toNat a,b,c⟩:=by
 obtain⟨p,rfl⟩:∃p:Nat,b=p:=⟨b.toNat,ω⟩;have e1:((0:Int)::List.replicate p a).length=p+1:=by simp
 obtain⟨q,rfl⟩:∃q,p=q+1:=⟨p-1,ω⟩;have e2:((0:Int)::List.replicate (q+1) a).getD (q+1) 0=a:=xU (b:=a) (n:=q+1) (i:=q) ω;have e3:((0:Int)::List.replicate (q+1) a).getD 1 0=a:=xU (b:=a) (n:=q+1) (i:=0) ω;refine⟨?_,?_,rfl,?_⟩
 ·have er:runs 0 ((0:Int)::List.replicate (q+1) a)=some a:=by
   rw[runs,if_neg ω,List.replicate_succ,runs,if_neg ω];exact xT ω q
  unfold Curve.valid;dsimp only;rw[χ,e1,er,if_neg ω];dsimp only;rw[if_neg (show¬a=inf by unfold inf;omega),(ω:(((q+1+1:Nat):Int)-((q+1:Nat):Int)).toNat=1),e3];exact decide_eq_true ω
 ·dsimp only;rw[χ,e1];omega
 ·dsimp only;rw[χ,e1,show q+1+1-1=q+1 from rfl,e2];unfold inf;omega
theorem ud(s:Rd):ConOk s.contract.1:=by
 have h1:4<=(s.range 4 16).1/\(s.range 4 16).1<=16:=bX rfl ω;have h2:=nc (l:=[1,2,3,4,6,12]) η (s.range 4 16).2;have h3:0<=(((s.range 4 16).2.pick [1,2,3,4,6,12]).2.n 4).1/\(((s.range 4 16).2.pick [1,2,3,4,6,12]).2.n 4).1<4:=n_in rfl ω;simp only[List.mem_cons,List.not_mem_nil,or_false]at h2;exact con_ok ω ω ω
theorem E7(s:Rd){ls:List Line}{n:Nat}(hn:ls.length=n)(h0:1<=n)(h1:n<=4)(name:ByteArray){k:Int}(hk:1<=k)(hcl:∀i:Nat,i<n->(ls.getD i default).classes=k):FlowOk ls (s.flow n name k).1/\(s.flow n name k).1.name=name:=by
 obtain⟨c,s1,e1⟩:∃c s1,s.n k=(c,s1):=⟨_,_,rfl⟩;obtain⟨q,s2,e2⟩:∃k s2,s1.contract=(k,s2):=⟨_,_,rfl⟩;obtain⟨a,s3,e3⟩:∃a s3,s2.range 1 3=(a,s3):=⟨_,_,rfl⟩;obtain⟨b,s4,e4⟩:∃b s4,s3.n 5=(b,s4):=⟨_,_,rfl⟩;obtain⟨w,s5,e5⟩:∃w s5,s4.n n=(w,s5):=⟨_,_,rfl⟩;obtain⟨t,s6,e6⟩:∃t s6,s5.pick [1,(n:Int)-1]=(t,s6):=⟨_,_,rfl⟩;obtain⟨d,s7,e7⟩:∃d s7,s6.range 1 (min 3 (n:Int))=(d,s7):=⟨_,_,rfl⟩;have m1:=n_in e1 ω;have m2:=ud s1;have m3:=bX e3 ω;have m4:=n_in e4 ω;have m5:=n_in e5 ω;have m6:=nc (l:=[1,(n:Int)-1]) η s5;have m7:=bX e7 ω;rw[e2]at m2;rw[e6]at m6;have hr:=pV (E0 h0 h1 m5 m6 m7);have ef:s.flow n name k=(⟨name,ij (hops w t n d.toNat).1,c,a,a+b,q⟩,s7):=by simp only[Rd.flow,e1,e2,e3,e4,e5,e6,e7]
 rw[ef];refine⟨⟨hr.1,λx hx=>?_,hr.2.2,m1.1,λx hx=>?_,⟨?_,?_,?_⟩,m2.valid,m2.len,m2.zero,m2.fin⟩,rfl⟩
 ·have:=hr.2.1 x hx;omega
 ·have:=hr.2.1 x hx;rw[hcl x.toNat ω];exact m1.2
 ·exact m3.1
 ·dsimp only;omega
 ·dsimp only;omega
theorem nV{ls:List Line}{n:Nat}(hn:ls.length=n)(h0:1<=n)(h1:n<=4){k:Int}(hk:1<=k)(hcl:∀i:Nat,i<n->(ls.getD i default).classes=k):∀(m:Nat) (s:Rd),
  (∀f∈(Rd.flows n k m s).1,FlowOk ls f/\mM f.name)/\(Rd.flows n k m s).1.map Flow.name=iY m
 |0,_=>⟨λ_ h=>(by cases h),rfl⟩
 |m+1,s=>by
  have ih:=nV hn h0 h1 hk hcl m s;have hf:=E7 (Rd.flows n k m s).2 hn h0 h1 (cZ m) hk hcl;refine⟨λf hm=>?_,?_⟩
  ·rcases List.mem_append.1 hm with h'|h'
   ·exact ih.1 f h'
   ·rw[List.mem_singleton.1 h'];refine⟨hf.1,?_⟩;rw[hf.2];exact io m
  ·show List.map Flow.name (_++[_])=iY m++[cZ m];rw[List.map_append,ih.2,List.map_singleton,hf.2]
theorem net_ok(s:Rd)(lines flows:Int)(h0:1<=lines)(h1:lines<=4)(h2:0<=flows)(h3:flows<=5):NetOk (s.net lines flows).1:=by
 obtain⟨k,s1,e1⟩:∃k s1,s.range 1 2=(k,s1):=⟨_,_,rfl⟩;obtain⟨c,s2,e2⟩:∃c s2,s1.range 1 lines=(c,s2):=⟨_,_,rfl⟩;obtain⟨l,s3,e3⟩:∃l s3,Rd.lines k c.toNat s2=(l,s3):=⟨_,_,rfl⟩;obtain⟨e,s4,e4⟩:∃e s4,s3.range 0 flows=(e,s4):=⟨_,_,rfl⟩;have m1:=bX e1 ω;have m2:=bX e2 ω;have m4:=bX e4 ω;have er:s.net lines flows=(⟨b8 c.toNat,l,(Rd.flows c.toNat k e.toNat s4).1⟩,(Rd.flows c.toNat k e.toNat s4).2):=by
  simp only[Rd.net,e1,e2,e3,e4]
 rw[er];have hl:=nU (k:=k) ω c.toNat s2;have hn:=Rd.lines_len k s2 c.toNat;have hf:=Rd.flows_len c.toNat k s4 e.toNat;rw[e3]at hl hn;dsimp only at hl hn;have hcl:∀i:Nat,i<c.toNat->(l.getD i default).classes=k:=λi hi=>(hl _ (by simp[<-hn,hi])).2;have hfl:=nV hn.symm ω ω ω hcl e.toNat s4;refine⟨?_,?_,?_,?_,?_,?_,?_,?_,?_⟩
 ·dsimp only;omega
 ·dsimp only;omega
 ·show(b8 _).length=l.length;rw[<-ik];exact hn
 ·exact jO _
 ·exact nS ω
 ·exactλx hx=>(hl x hx).1
 ·exactλf hm=>(hfl.1 f hm).2
 ·show(List.map Flow.name _).Nodup;rw[hfl.2];exact nT ω
 ·exactλf hm=>(hfl.1 f hm).1
end Go.Nc