/- Parts. -/
import Derived.Test.YtooapceogfengaaGreatNdKA
namespace Go.Nc
open Go.Proofs.Tryz
open Go.Proofs
set_option maxHeartbeats 8000000
theorem sp:bx 96 [J 1] (.tup [.iface 179 (.agg []),.bool true]):=by
 refine ee func96 ntmps96 results96 λ_ _ _=>?_;repeat'(first|refine' aj|(refine VLook.mk ⟨none,rfl,?_⟩;conv=>whnf)|(refine VLook.mk ⟨some (_,_),rfl,?_⟩;conv=>whnf))
 all_goals exact Y
theorem sq:bx 96 [J 2] (.tup [.iface 180 (.agg []),.bool true]):=by
 refine ee func96 ntmps96 results96 λ_ _ _=>?_;repeat'(first|refine' aj|(refine VLook.mk ⟨none,rfl,?_⟩;conv=>whnf)|(refine VLook.mk ⟨some (_,_),rfl,?_⟩;conv=>whnf))
 all_goals exact Y
theorem sr:bx 96 [J 3] (.tup [.iface 181 (.agg []),.bool true]):=by
 refine ee func96 ntmps96 results96 λ_ _ _=>?_;repeat'(first|refine' aj|(refine VLook.mk ⟨none,rfl,?_⟩;conv=>whnf)|(refine VLook.mk ⟨some (_,_),rfl,?_⟩;conv=>whnf))
 all_goals exact Y
theorem ss:bx 96 [J 4] (.tup [.iface 182 (.agg []),.bool true]):=by
 refine ee func96 ntmps96 results96 λ_ _ _=>?_;repeat'(first|refine' aj|(refine VLook.mk ⟨none,rfl,?_⟩;conv=>whnf)|(refine VLook.mk ⟨some (_,_),rfl,?_⟩;conv=>whnf))
 all_goals exact Y
theorem su:bx 96 [J 5] (.tup [.iface 183 (.agg []),.bool true]):=by
 refine ee func96 ntmps96 results96 λ_ _ _=>?_;repeat'(first|refine' aj|(refine VLook.mk ⟨none,rfl,?_⟩;conv=>whnf)|(refine VLook.mk ⟨some (_,_),rfl,?_⟩;conv=>whnf))
 all_goals exact Y
@[irreducible] noncomputable def nmOf(k:Nat):String:=match prog.types[179]? with
 |some t=>(match t.methods[k]? with |some m=>m.name|none=>default)
 |none=>default
theorem tJ(w:World):(method (prog.types.size+Made.depth) 179 (.agg #[]) (nmOf 0)).run prog w=.ok (294,.agg #[]) w:=by kernel_rfl
theorem tK(w:World):(method (prog.types.size+Made.depth) 180 (.agg #[]) (nmOf 0)).run prog w=.ok (298,.agg #[]) w:=by kernel_rfl
theorem tL(w:World):(method (prog.types.size+Made.depth) 181 (.agg #[]) (nmOf 0)).run prog w=.ok (308,.agg #[]) w:=by kernel_rfl
theorem tM(w:World):(method (prog.types.size+Made.depth) 182 (.agg #[]) (nmOf 0)).run prog w=.ok (323,.agg #[]) w:=by kernel_rfl
theorem tN(w:World):(method (prog.types.size+Made.depth) 183 (.agg #[]) (nmOf 0)).run prog w=.ok (333,.agg #[]) w:=by kernel_rfl
theorem tO(w:World):(method (prog.types.size+Made.depth) 179 (.agg #[]) (nmOf 1)).run prog w=.ok (295,.agg #[]) w:=by kernel_rfl
theorem tP(w:World):(method (prog.types.size+Made.depth) 180 (.agg #[]) (nmOf 1)).run prog w=.ok (299,.agg #[]) w:=by kernel_rfl
theorem tQ(w:World):(method (prog.types.size+Made.depth) 181 (.agg #[]) (nmOf 1)).run prog w=.ok (309,.agg #[]) w:=by kernel_rfl
theorem tR(w:World):(method (prog.types.size+Made.depth) 182 (.agg #[]) (nmOf 1)).run prog w=.ok (324,.agg #[]) w:=by kernel_rfl
theorem tS(w:World):(method (prog.types.size+Made.depth) 183 (.agg #[]) (nmOf 1)).run prog w=.ok (334,.agg #[]) w:=by kernel_rfl
def Nz(l:Line):Prop:=((l.kind=1\/l.kind=2)/\l.weights=[]/\l.slots=[])\/(l.kind=3/\l.classes=l.weights.length/\(∀x∈l.weights,1<=x/\x<=20)/\l.slots=[])\/
 (l.kind=4/\l.classes=l.weights.length/\(∀x∈l.weights,1<=x/\x<=6000)/\l.slots=[])\/(l.kind=5/\l.weights=[]/\1<=l.slots.length/\l.slots.length<=40/\∀x∈l.slots,-1<=x/\x<=l.classes-1)
structure LineOk(l:Line):Prop where
 cap:1<=l.cap/\l.cap<=4000
 cls:1<=l.classes/\l.classes<=6
 kind:Nz l
structure FlowOk(ls:List Line)(f:Flow):Prop where
 ne:1<=f.route.length/\f.route.length<=4
 lines:∀x∈f.route,0<=x/\x<ls.length
 nodup:f.route.Nodup
 cls:0<=f.class_
 cls2:∀x∈f.route,f.class_<(ls.getD x.toNat default).classes
 sizes:1<=f.least/\f.least<=f.most/\f.most<=1500
 valid:f.con.valid=true
 len:1<=f.con.vals.length/\f.con.vals.length<=400
 zero:f.con.vals.getD 0 0=0
 fin:f.con.vals.getD (f.con.vals.length-1) 0≠cx
theorem CD(c:Curve)(H:1<=c.vals.length/\c.vals.length<=400)(h:c.vals.getD (c.vals.length-1) 0≠cx):bx 143 [c.av] (.bool true):=by
 have e:((c.vals.length:Int)-1).toNat=c.vals.length-1:=Z;refine' db func143 ntmps143 results143
 all_goals first|exact bs|skip
 refine Θ ?_;show AV.bool (!decide (c.vals.getD ((c.vals.length:Int)-1).toNat 0=4611686018427387904))=_;rw[e,decide_eq_false (show¬c.vals.getD (c.vals.length-1) 0=4611686018427387904 from h)];rfl
theorem xR(c:Curve)(b:c.valid=true)(a:1<=c.vals.length/\c.vals.length<=400)(H:c.vals.getD (c.vals.length-1) 0≠cx):bx 98 [c.av] (.bool true):=by
 have h:=eQ c;rw[b]at h;refine ee func98 ntmps98 results98 λ_ _ _=>?_;repeat'(first|refine' aj|refine ab (CD c a H) ?_)
 all_goals try dsimp only at hb
 all_goals try simp only[χ]at hb
 all_goals first|exact Y|exactλ_ _=>rfl|omega|(dsimp only;omega)|(dsimp only;unfold ah;omega)|((repeat'(first|exact True.intro|refine And.intro ?_ ?_))<;>first|rfl|exactλ_ _=>rfl|(refine Ξ ?_;dsimp only;omega)|((conv=>whnf)<;>first|exact Y|exact kd|(refine Ξ ?_;dsimp only;omega)))
theorem vH{x:Int}:∀{l:List Int} (i:Nat),x∉l->ru (J x) (l.map λy=>(J y,.bool true)) i=some none
 |[],_,_=>rfl
 |y::l,i,h=>by
  simp only[List.mem_cons,not_or]at h;simp only[List.map_cons,ru,if_neg h.1];exact vH (i+1) h.2
theorem z7{i:List Nat}{l:List Int}:∀k v,(k,v)∈(l.map λy=>((J y:AV),(.bool true:AV)))->gu i k=true/\gu i v=true:=λk v H=>by
 obtain⟨x,_,h⟩:=List.mem_map.1 H;cases h;exact⟨rfl,rfl⟩
def FM(l:List Int):List (AV×AV):=l.map λy=>(J y,.bool true)
theorem kJ{l:List Int}{j:Nat}(h:j<l.length):l.take (j+1)=l.take j++[l.getD j 0]:=by
 rw[List.take_add_one];simp[h]
def nQ(s:ByteArray):Prop:=WordP s
def kD(l:List ByteArray):List (AV×AV):=l.map λy=>(.str y,.bool true)
theorem gQ{i:List Nat}{l:List ByteArray}:∀k v,(k,v)∈(l.map λy=>((.str y:AV),(.bool true:AV)))->gu i k=true/\gu i v=true:=λk v H=>by
 obtain⟨x,_,h⟩:=List.mem_map.1 H;cases h;exact⟨rfl,rfl⟩
theorem nc{x:ByteArray}:∀{l:List ByteArray} (i:Nat),x∉l->ru (.str x) (l.map λy=>(.str y,.bool true)) i=some none
 |[],_,_=>rfl
 |y::l,i,h=>by
  simp only[List.mem_cons,not_or]at h;simp only[List.map_cons,ru,if_neg h.1];exact nc (i+1) h.2
structure NetOk(n:Net):Prop where
 len:1<=n.lines.length/\n.lines.length<=8
 flen:n.flows.length<=10
 nlen:n.names.length=n.lines.length
 word:∀x∈n.names,nQ x
 nodup:n.names.Nodup
 line:∀l∈n.lines,LineOk l
 fword:∀f∈n.flows,nQ f.name
 fnodup:(n.flows.map Flow.name).Nodup
 flow:∀f∈n.flows,FlowOk n.lines f
theorem LI{l:List ByteArray}{j:Nat}(h:j<l.length)(d:ByteArray):l.take (j+1)=l.take j++[l.getD j d]:=by
 rw[List.take_add_one];simp[h]
theorem CE{l:List ByteArray}(h:l.Nodup){j:Nat}(b:j<l.length)(d:ByteArray):l.getD j d∉l.take j:=by
 intro c;have e:l.getD j d=l[j]:=by simp[b]
 rw[e]at c;obtain⟨i,f,a⟩:=List.mem_iff_getElem.1 c;simp only[List.length_take]at f;rw[List.getElem_take]at a;have H:i<j:=Z;exact(List.pairwise_iff_getElem.1 h) i j Z b H a
def vI(l:List Int):Nat->Int
 |0=>0
 |j+1=>l.getD j 0
theorem CF{c:Curve}(h:c.valid=true):1<=c.vals.length/\c.vals.length<=400:=by
 unfold Curve.valid at h;split at h
 .cases h
 .omega
theorem cJ(c:Curve):∃b:Bool,b=c.valid/\bx 89 [c.av] (.bool b):=by
 by_cases w:1<=c.vals.length/\c.vals.length<=400/\1<=c.per/\c.per<=120/\c.per<=c.vals.length/\0<=c.inc/\c.inc<=1073741824
 .have q:((c.vals.length:Int)-1).toNat=c.vals.length-1:=Z;have H:c.valid=match fo 0 c.vals with
   |none=>false
   |some last=>if last=cx then decide (c.per=1)&&decide (c.inc=0)else decide (last<=c.vals.getD (c.vals.length-c.per).toNat 0+c.inc):=by
   unfold Curve.valid;rw[if_neg Z];rfl
  refine dp func89 ntmps89 results89 ?_;repeat'(first|refine' ag|fail)
  all_goals try first|exact bs|(exfalso;omega)|(exfalso;dsimp only at *;omega)
  refine ae (ι:={j:Nat//j<=c.vals.length/\0<=vI c.vals j/\vI c.vals j<=cx/\fo 0 c.vals=fo (vI c.vals j) (c.vals.drop j)}) [1,3] [1] [] ⟨0,π _,Int.le_refl 0,(φ:(0:Int)<=cx),rfl⟩ (λ⟨j,_⟩=>c.vals.length-j) (λ⟨j,_⟩=>[(4,J j)]) (λ_=>[]) ?_ ?_
  .exact⟨⟨rfl,rfl⟩,bt,bt⟩
  .rintro⟨j,y,g,a,d⟩;conv=>whnf
   by_cases f:(j:Int)<c.vals.length
   .obtain⟨v,n⟩:∃v,v=c.vals.getD j 0:=⟨_,rfl⟩;have o:c.vals.getD (j:Int).toNat 0=v:=by rw[n];rfl
    obtain⟨p,r⟩:∃p,p=vI c.vals j:=⟨_,rfl⟩;have E:0<j->c.vals.getD ((j:Int)-1).toNat 0=p:=λh=>by
     rw[r,(Z:((j:Int)-1).toNat=j-1)];cases j with
     |zero=>omega
     |succ j=>rfl
    have s:j=0->p=0:=λh=>by rw[r,h];rfl
    rw[<-r]at g a d;have m:=pq (Z:j<c.vals.length) d;rw[<-n]at m;unfold cx at m;by_cases x:(v=4611686018427387904\/(0<=v/\v<=1073741824))/\p<=v
    .rw[if_neg Z]at m;repeat'(first|(refine U f λhb=>?_;conv=>whnf)|(exact aM [] ⟨j+1,Z,by show 0<=c.vals.getD j 0;rw[<-n];omega,by show c.vals.getD j 0<=cx;rw[<-n];unfold cx;omega,by show _=fo (c.vals.getD j 0) _;rw[<-n];exact m⟩ ⟨⟨rfl,rfl⟩,bt,bt⟩ (by first|omega|(dsimp only;omega)))|refine' ag|fail)
     all_goals try exact bs
     all_goals(try(have e:=E Z;rw[e]at *));(try rw[o]at *);exfalso;omega
    .rw[if_pos Z]at m;rw[m]at H;repeat'(first|(refine U f λhb=>?_;conv=>whnf)|refine' ag|fail)
     all_goals try first|exact bs|exact ac ⟨false,rfl,H.symm⟩
     all_goals(try(have e:=E Z;rw[e]at *));(try rw[o]at *);exfalso;(try have u:=s Z);omega
   .have t:j=c.vals.length:=Z;subst t;rw[List.drop_eq_nil_of_le (ξ _)]at d;have l:vI c.vals c.vals.length=c.vals.getD (c.vals.length-1) 0:=by
     cases hn:c.vals.length with
     |zero=>omega
     |succ k=>rfl
    rw[l]at d g a;have hq:=(mZ d).2 _ (a8 (i:=((c.vals.length:Int)-c.per).toNat) Z);unfold cx at hq a;rw[<-q]at d g a;have d:fo 0 c.vals=some (c.vals.getD ((c.vals.length:Int)-1).toNat 0):=d;rw[d]at H;dsimp only at H;unfold cx at H;repeat'(first|(refine M f λhb=>?_;conv=>whnf)|refine' ag|fail)
    all_goals try exact bs
    .exact ac ⟨_,rfl,by rw[H,if_pos ‹_›,decide_eq_true (p:=c.per=1) ‹_›];rfl⟩
    .exact ac ⟨false,rfl,by rw[H,if_pos ‹_›,decide_eq_false (p:=c.per=1) ‹_›];rfl⟩
    .exact ac ⟨_,rfl,by rw[H,if_neg ‹_›]⟩
 .have H:c.valid=false:=by
   unfold Curve.valid;rw[if_pos Z]
  refine dp func89 ntmps89 results89 ?_;repeat'(first|refine' ag|fail)
  all_goals try first|exact ac ⟨false,rfl,H.symm⟩
  all_goals exfalso;omega
theorem lH(c:Curve)(h:c.valid=true):∃b:Bool,(b=true↔c.vals.getD (c.vals.length-1) 0≠cx)/\bx 90 [c.av] (.bool b):=by
 obtain⟨b,hb,p⟩:=cJ c;rw[h]at hb;subst hb;have H:=CF h;have e:((c.vals.length:Int)-1).toNat=c.vals.length-1:=Z;refine dp func90 ntmps90 results90 ?_;repeat'(first|refine' ag|fail)
 all_goals try first|exact bs|(exfalso;omega)|(exfalso;dsimp only at *;omega)
 exact ac ⟨_,rfl,by
  show(!decide (c.vals.getD ((c.vals.length:Int)-1).toNat 0=4611686018427387904))=true↔_;rw[e];simp[cx]⟩
theorem tT{α:Type}{l:List α}(h:l.Nodup){i j:Nat}(H:i<l.length)(a:j<l.length)(d:α)(e:l.getD i d=l.getD j d):i=j:=by
 rw[ψ,ψ,β H,β a]at e;exact(List.getElem_inj h).1 (by simpa using e)
theorem tU{α:Type}{l:List α}(h:l.Nodup)(d:α){j:Nat}(b:j<l.length):l.getD j d∉l.take j:=by
 intro e;obtain⟨i,c,H⟩:=List.mem_iff_getElem.1 e;rw[ψ,β b]at H;simp only[List.length_take]at c;rw[List.getElem_take]at H;have a:i<j:=Z;exact(List.pairwise_iff_getElem.1 h) i j Z b a H
theorem vJ(n lo h:Int)(H:lo<=n)(a:n<=h):bx 314 [J n,.ibox [J lo] 0,.ibox [J h] 0] (.bool false):=by
 refine' db func314 ntmps314 results314
 all_goals first|omega|exact Y|exact Θ (by rw[decide_eq_false Z];rfl)
theorem FN(l:List Int)(lo H:Int)(h:∀x∈l,lo<=x/\x<=H)(d:l.length<=2000):bx 321 [c4 l,.fn 314 [.ibox [J lo] 0,.ibox [J H] 0]] (J (-1)):=by
 have b:∀i:Nat,i<l.length->lo<=l.getD i 0/\l.getD i 0<=H:=λi a=>h _ (by simp[a]);refine' db func321 ntmps321 results321
 refine⟨(aF (ι:={j:Nat//j<=l.length}) [0,1,7] [] [] ⟨0,π _⟩ (λj=>l.length-j.1) (λj=>[(8,J j.1)]) (λj=>[]) ?_ ?_).good⟩
 .refine⟨⟨rfl,rfl⟩,?_,?_⟩;all_goals try refine' dw
 .intro j;conv=>whnf
  obtain⟨j,c⟩:=j;repeat'(first|refine' aj|(refine ab (vJ _ lo H (b j (by dsimp only at *;omega)).1 (b j (by dsimp only at *;omega)).2) ?_)|(refine aG [] ⟨j+1,?_⟩ ⟨⟨rfl,rfl⟩,?_,?_⟩ ?_))
  all_goals try dsimp only at hb
  all_goals try simp only[χ]at hb
  all_goals first|exact Y|exactλ_ _=>rfl|omega|(dsimp only;omega)|(dsimp only;unfold ah;omega)|((repeat'(first|exact True.intro|refine And.intro ?_ ?_))<;>first|rfl|exactλ_ _=>rfl|(refine Ξ ?_;dsimp only;omega)|((conv=>whnf)<;>first|exact Y|exact kd|(refine Ξ ?_;dsimp only;omega)))
theorem I1(l:List Int)(lo H:Int)(h:∀x∈l,lo<=x/\x<=H)(a:l.length<=2000):bx 313 [c4 l,.fn 314 [.ibox [J lo] 0,.ibox [J H] 0]] (.bool false):=by
 refine ee func313 ntmps313 results313 λ_ _ _=>?_;repeat'(first|refine' aj|refine ab (FN l lo H h a) ?_)
 all_goals try dsimp only at hb
 all_goals try simp only[χ]at hb
 all_goals first|exact Y|exactλ_ _=>rfl|omega|(dsimp only;omega)|(dsimp only;unfold ah;omega)|((repeat'(first|exact True.intro|refine And.intro ?_ ?_))<;>first|rfl|exactλ_ _=>rfl|(refine Ξ ?_;dsimp only;omega)|((conv=>whnf)<;>first|exact Y|exact kd|(refine Ξ ?_;dsimp only;omega)))
theorem kU(l:List Int)(lo H:Int)(h:∀x∈l,lo<=x/\x<=H)(a:l.length<=2000):bx 311 [c4 l,J lo,J H] (.bool true):=by
 refine ee func311 ntmps311 results311 λ_ _ _=>?_;refine gv ?_;conv=>whnf
 refine jW 4 rfl rfl rfl ?_ ?_ ?_;rotate_left;rotate_left;refine jW 5 rfl rfl rfl ?_ ?_ ?_;rotate_left;rotate_left;refine aT [] [] [] [(0,c4 l),(4,.ibox [J lo] 0),(5,.ibox [J H] 0)] [] ⟨⟨rfl,rfl⟩,?_,?_⟩ ?_;rotate_left;rotate_left;conv=>whnf
 repeat'(first|refine' aj|refine ab (I1 l lo H h a) ?_)
 all_goals try refine' b8
 all_goals try dsimp only at hb
 all_goals try simp only[χ]at hb
 all_goals first|exact Y|exactλ_ _=>rfl|omega|(dsimp only;omega)|(dsimp only;unfold ah;omega)|((repeat'(first|exact True.intro|refine And.intro ?_ ?_))<;>first|rfl|exactλ_ _=>rfl|(refine Ξ ?_;dsimp only;omega)|((conv=>whnf)<;>first|exact Y|exact kd|(refine Ξ ?_;dsimp only;omega)))
theorem i4(m:Nat)(H:m<=10):bx 297 [.bool true,.isl m 1 λ_=>[c4 []]] (J 0):=by
 refine' db func297 ntmps297 results297
 refine⟨(aF (ι:={j:Nat//j<=m}) [9,10] [] [] ⟨0,π _⟩ (λj=>m-j.1) (λj=>[(11,J j.1)]) (λj=>[]) ?_ ?_).good⟩
 .refine⟨⟨rfl,rfl⟩,?_,?_⟩;all_goals try dsimp only at hb
  all_goals try simp only[χ]at hb
  all_goals first|exact Y|exactλ_ _=>rfl|omega|(dsimp only;omega)|(dsimp only;unfold ah;omega)|((repeat'(first|exact True.intro|refine And.intro ?_ ?_))<;>first|rfl|exactλ_ _=>rfl|(refine Ξ ?_;dsimp only;omega)|((conv=>whnf)<;>first|exact Y|exact kd|(refine Ξ ?_;dsimp only;omega)))
 .intro j;conv=>whnf
  obtain⟨j,h⟩:=j;repeat'(first|refine' aj|(refine aG [] ⟨j+1,?_⟩ ⟨⟨rfl,rfl⟩,?_,?_⟩ ?_))
  all_goals try dsimp only at hb
  all_goals try simp only[χ]at hb
  all_goals first|exact Y|exactλ_ _=>rfl|omega|(dsimp only;omega)|(dsimp only;unfold ah;omega)|((repeat'(first|exact True.intro|refine And.intro ?_ ?_))<;>first|rfl|exactλ_ _=>rfl|(refine Ξ ?_;dsimp only;omega)|((conv=>whnf)<;>first|exact Y|exact kd|(refine Ξ ?_;dsimp only;omega)))
theorem CG(k cap c:Int):bx 294 [.agg [],Line.av ⟨k,cap,c,[],[]⟩] (J 0):=by
 refine ee func294 ntmps294 results294 λ_ _ _=>?_;repeat'(first|refine' aj|(refine bY [.bool true] [] (i4 2 Z) rfl (ξ _) ?_ ?_ ?_;rotate_left;rotate_left;conv=>whnf))
 all_goals first|exact Y|exact aO (by repeat'(first|exact True.intro|rfl|refine And.intro ?_ ?_))
theorem Bn(k cap c:Int):bx 298 [.agg [],Line.av ⟨k,cap,c,[],[]⟩] (J 0):=by
 refine ee func298 ntmps298 results298 λ_ _ _=>?_;repeat'(first|refine' aj|(refine bY [.bool true] [] (i4 2 Z) rfl (ξ _) ?_ ?_ ?_;rotate_left;rotate_left;conv=>whnf))
 all_goals first|exact Y|exact aO (by repeat'(first|exact True.intro|rfl|refine And.intro ?_ ?_))
theorem Bo(k cap c:Int)(w:List Int)(H:c=w.length)(h:∀x∈w,1<=x/\x<=20)(a:w.length<=2000):bx 308 [.agg [],Line.av ⟨k,cap,c,w,[]⟩] (J 0):=by
 subst H;refine ee func308 ntmps308 results308 λ_ _ _=>?_;repeat'(first|refine' aj|refine ab (kU w 1 20 h a) ?_|(refine bY [.bool true] [] (i4 1 Z) rfl (ξ _) ?_ ?_ ?_;rotate_left;rotate_left;conv=>whnf))
 all_goals first|exact Y|exact absurd rfl hb|exact aO (by repeat'(first|exact True.intro|rfl|refine And.intro ?_ ?_))
theorem tV(k cap c:Int)(w:List Int)(H:c=w.length)(h:∀x∈w,1<=x/\x<=6000)(a:w.length<=2000):bx 323 [.agg [],Line.av ⟨k,cap,c,w,[]⟩] (J 0):=by
 subst H;refine ee func323 ntmps323 results323 λ_ _ _=>?_;repeat'(first|refine' aj|refine ab (kU w 1 6000 h a) ?_|(refine bY [.bool true] [] (i4 1 Z) rfl (ξ _) ?_ ?_ ?_;rotate_left;rotate_left;conv=>whnf))
 all_goals first|exact Y|exact absurd rfl hb|exact aO (by repeat'(first|exact True.intro|rfl|refine And.intro ?_ ?_))
theorem Bp(k cap c:Int)(s:List Int)(H:1<=s.length)(a:s.length<=40)(b:1<=c/\c<=1000)(h:∀x∈s,-1<=x/\x<=c-1):bx 333 [.agg [],Line.av ⟨k,cap,c,[],s⟩] (J 0):=by
 refine ee func333 ntmps333 results333 λ_ _ _=>?_;repeat'(first|refine' aj|(refine ab (kU s (-1) (c-1) h Z) ?_)|(refine bY [.bool true] [] (i4 1 Z) rfl (ξ _) ?_ ?_ ?_;rotate_left;rotate_left;conv=>whnf))
 all_goals try dsimp only at hb
 all_goals first|exact Y|omega|(dsimp only;unfold ah;omega)|exact aO (by repeat'(first|exact True.intro|rfl|refine And.intro ?_ ?_))
theorem js(l:Line)(t:Nat)(f:FuncId)(a:1<=l.cap/\l.cap<=4000)(c:1<=l.classes/\l.classes<=6)(b:bx 96 [J l.kind] (.tup [.iface t (.agg []),.bool true]))
  (H:∀w,(method (prog.types.size+Made.depth) t (.agg #[]) (nmOf 0)).run prog w=.ok (f,.agg #[]) w) (h:bx f [.agg [],l.av] (J 0)):bx 60 [l.av] (J 0):=by
 refine ee func60 ntmps60 results60 λ_ _ _=>?_;repeat'(first|refine' aj|(refine VInv.mk ⟨f,λw=>Eq.trans (by kernel_rfl) (H w),?_⟩;refine am h ?_;conv=>whnf))
 all_goals first|omega|exact Y
theorem pC(l:Line)(h:LineOk l):bx 60 [l.av] (J 0):=by
 obtain⟨d,c,g⟩:=h;obtain⟨k,cap,C,w,s⟩:=l;rcases g with⟨H|H,a,b⟩|⟨H,a,b,e⟩|⟨H,a,b,e⟩|⟨H,a,b,e,f⟩
 .dsimp only at H a b d c;subst H;subst a;subst b;exact js _ 179 294 d c sp tJ (CG _ _ _)
 .dsimp only at H a b d c;subst H;subst a;subst b;exact js _ 180 298 d c sq tK (Bn _ _ _)
 .dsimp only at H a b e d c;subst H;subst e;exact js _ 181 308 d c sr tL (Bo _ _ _ _ a b Z)
 .dsimp only at H a b e d c;subst H;subst e;exact js _ 182 323 d c ss tM (tV _ _ _ _ a b Z)
 .dsimp only at H a b e f d c;subst H;subst a;exact js _ 183 333 d c su tN (Bp _ _ _ _ b e ⟨c.1,Z⟩ f)
theorem vK(l:List Line)(f:Flow)(h:FlowOk l f):bx 62 [f.av] (J 0):=by
 have H:=eQ f.con;rw[h.valid]at H;have c:=h.zero;have b:=h.sizes;have a:=h.len;refine ee func62 ntmps62 results62 λ_ _ _=>?_;repeat'(first|refine' aj|refine ab (xR f.con h.valid h.len h.fin) ?_)
 all_goals first|omega|exact Y|exact absurd h.zero hb
theorem Bq(n:Net)(f:Flow)(h:FlowOk n.lines f):bx 61 [n.av,f.av] (J 0):=by
 have g:=h.ne;have b:∀j:Nat,j<f.route.length->f.route.getD j 0∈f.route:=λj a=>by simp[a]
 have d:∀j:Nat,j<f.route.length->f.route.getD j 0∉f.route.take j:=λj a=>tU h.nodup 0 a;have c:∀j:Nat,j<f.route.length->0<=f.route.getD j 0/\f.route.getD j 0<n.lines.length:=λj a=>h.lines _ (b j a);have hcl:∀j:Nat,j<f.route.length->f.class_<(n.lines.getD (f.route.getD j 0).toNat default).classes:=λj a=>h.cls2 _ (b j a);have e:=h.cls;refine' db func61 ntmps61 results61
 .omega
 .omega
 refine⟨(aF (ι:={j:Nat//j<=f.route.length}) [2,3,5,18,19] [2,3] [] ⟨0,π _⟩ (λj=>f.route.length-j.1) (λj=>[(20,J j.1)]) (λj=>[(16,some (.map (FM (f.route.take j.1))))]) ?_ ?_).good⟩
 .refine⟨⟨rfl,rfl⟩,?_,?_⟩;all_goals try refine' dw
  all_goals exact z7
 .intro j;conv=>whnf
  obtain⟨j,a⟩:=j;repeat(refine gv ?_;conv=>whnf)
  refine aa (λhb=>?_) (λhb=>?_)
  .have H : j<f.route.length:=by dsimp only at hb;omega
   have i:=c j H;have k:=hcl j H;conv=>whnf
   repeat'(first|refine' aj|(refine VLook.mk ⟨none,vH 0 (d j H),?_⟩;conv=>whnf)|(refine aG [] ⟨j+1,?_⟩ ⟨⟨rfl,rfl⟩,?_,?_⟩ ?_))
   all_goals try dsimp only at hb
   all_goals try simp only[χ]at hb
   all_goals try first|omega|(dsimp only;omega)|(dsimp only;unfold ah;omega)|(dsimp only;simp only[χ];omega)
   ·(repeat'(first|exact True.intro|refine And.intro ?_ ?_))<;>first
     |rfl
     |exact z7
     | (conv => whnf
        first
         | (show ObLe (.map (FM (f.route.take j)++[(J (f.route.getD j 0),.bool true)])) (.map (List.map _ (FM (f.route.take (j+1)))))
            refine ObLe.of_eq ?_;rw[kJ H];simp[FM,px];rfl)
         |exact kd)
   .all_goals try refine' dw
  .conv=>whnf
   repeat'(first|refine' aj|fail)
   exact Y
theorem I2(k:List ByteArray)(n:ByteArray)(H:bx 95 [.str n] (.bool true))(h:n∉k):fl 59 [.mref 37,.str n] [(37,.map (kD k))] (J 0) [(37,.map (kD (k++[n])))]:=by
 refine ee func59 ntmps59 results59 (λ_ _ _=>?_) (hcl:=⟨rfl,rfl,rfl,bW gQ,bW gQ,rfl⟩);repeat'(first|refine' gM|refine ab H ?_|(refine VLook.mk ⟨none,nc 0 h,?_⟩;conv=>whnf))
 .exact Y
 .show some (LObj.map (kD k++[(.str n,.bool true)]))=_;simp[kD]
theorem I3(k:List ByteArray)(n:ByteArray)(H:bx 95 [.str n] (.bool true))(h:n∉k):fl 59 [.mref 62,.str n] [(62,.map (kD k))] (J 0) [(62,.map (kD (k++[n])))]:=by
 refine ee func59 ntmps59 results59 (λ_ _ _=>?_) (hcl:=⟨rfl,rfl,rfl,bW gQ,bW gQ,rfl⟩);repeat'(first|refine' gM|refine ab H ?_|(refine VLook.mk ⟨none,nc 0 h,?_⟩;conv=>whnf))
 .exact Y
 .show some (LObj.map (kD k++[(.str n,.bool true)]))=_;simp[kD]
theorem iV(n:Net)(h:NetOk n):bx 40 [n.av] (J 0):=by
 have l:=h.len;have o:=h.flen;have f:=h.nlen;have p:∀j:Nat,j<n.lines.length->LineOk (n.lines.getD j default):=λj a=>h.line _ (by simp[a]);have q:∀j:Nat,j<n.lines.length->nQ (n.names.getD j .empty):=λj a=>h.word _ (by simp[f,a]);have g:∀j:Nat,j<n.lines.length->n.names.getD j .empty∉n.names.take j:=λj a=>CE h.nodup Z _;have k:∀j:Nat,j<n.flows.length->FlowOk n.lines (n.flows.getD j default):=λj a=>h.flow _ (by simp[a]);have e:∀j:Nat,j<n.flows.length->nQ (n.flows.getD j default).name:=λj a=>h.fword _ (by simp[a]);have b:∀j:Nat,j<n.flows.length->(n.flows.map Flow.name).getD j .empty=(n.flows.getD j default).name:=λj a=>by simp[a]
 have d:∀j:Nat,j<n.flows.length->(n.flows.getD j default).name∉(n.flows.map Flow.name).take j:=λj a=>by
  rw[<-b j a];exact CE h.fnodup (by simpa using a) _
 refine' db func40 ntmps40 results40
 all_goals try omega
 refine⟨(aF (ι:={j:Nat//j<=n.lines.length}) [1,3,39,40] [1] [] ⟨0,π _⟩ (λj=>n.lines.length-j.1) (λj=>[(41,J j.1)]) (λj=>[(37,some (.map (kD (n.names.take j.1))))]) ?_ ?_).good⟩
 .refine⟨⟨rfl,rfl⟩,?_,?_⟩;all_goals try refine' dw
  all_goals exact gQ
 .intro j;conv=>whnf
  obtain⟨j,a⟩:=j;repeat(refine gv ?_;conv=>whnf)
  refine aa (λhb=>?_) (λhb=>?_)
  .have H : j<n.lines.length:=by dsimp only at hb;omega
   have c:=I2 (n.names.take j) (n.names.getD j .empty) (CC (q j H)) (g j H);have m:=pC _ (p j H);conv=>whnf
   repeat'(first|refine' aj|refine cn c ?_|(refine aG [] ⟨j+1,?_⟩ ⟨⟨rfl,rfl⟩,?_,?_⟩ ?_))
   all_goals try dsimp only at hb
   all_goals try first|omega|(dsimp only;omega)|(dsimp only;unfold ah;omega)|(dsimp only;simp only[χ];omega)
   ·(repeat'(first|exact True.intro|refine And.intro ?_ ?_))<;>first
     |rfl
     |exact gQ
     | (conv => whnf
        first
         | (show ObLe (.map (kD (n.names.take j++[n.names.getD j .empty]))) (.map (List.map _ (kD (n.names.take (j+1)))))
            refine ObLe.of_eq ?_;rw[LI (Z:j<n.names.length) .empty];simp[kD,px];rfl)
         |exact kd)
   .all_goals try refine' dw
  .conv => whnf
   repeat'(first|refine' aj|fail)
   refine⟨(aF (ι:={j:Nat//j<=n.flows.length}) [1,8,64,65] [1] [] ⟨0,π _⟩ (λj=>n.flows.length-j.1) (λj=>[(66,J j.1)]) (λj=>[(62,some (.map (kD ((n.flows.map Flow.name).take j.1))))]) ?_ ?_).good⟩
   .refine⟨⟨rfl,rfl⟩,?_,?_⟩;all_goals try refine' dw
    all_goals exact gQ
   .intro i;conv=>whnf
    obtain⟨i,s⟩:=i;repeat(refine gv ?_;conv=>whnf)
    refine aa (λhb=>?_) (λhb=>?_)
    .have H : i<n.flows.length:=by dsimp only at hb;omega
     have c:=I3 ((n.flows.map Flow.name).take i) (n.flows.getD i default).name (CC (e i H)) (d i H);have m:=Bq n _ (k i H);have r:=vK _ _ (k i H);conv=>whnf
     repeat'(first|refine' aj|refine cn c ?_|(refine aG [] ⟨i+1,?_⟩ ⟨⟨rfl,rfl⟩,?_,?_⟩ ?_))
     all_goals try dsimp only at hb
     all_goals try first|omega|(dsimp only;omega)|(dsimp only;unfold ah;omega)|(dsimp only;simp only[χ];omega)
     ·(repeat'(first|exact True.intro|refine And.intro ?_ ?_))<;>first
       |rfl
       |exact gQ
       | (conv => whnf
          first
           | (show ObLe (.map (kD ((n.flows.map Flow.name).take i++[(n.flows.getD i default).name]))) (.map (List.map _ (kD ((n.flows.map Flow.name).take (i+1)))))
              refine ObLe.of_eq ?_;rw[LI (show i<(n.flows.map Flow.name).length by simpa using H) .empty,b i H];simp[kD,px];rfl)
           |exact kd)
     .all_goals try refine' dw
    .conv=>whnf
     repeat'(first|refine' aj|fail)
     exact Y
theorem jt(l:List Int)(c:l.length<=100000)(lo H:Int)(h:∀x∈l,lo<=x/\x<=H):∃b:Bool,b=true/\bx 88 [c4 l,J lo,J H] (.bool b):=by
 refine dp func88 ntmps88 results88 ?_;repeat'(first|refine' bB|fail)
 refine ae (ι:={i:Nat//i<=l.length}) [0,1,2] [] [] ⟨0,Z⟩ (λ⟨i,_⟩=>l.length-i) (λ⟨i,_⟩=>[(7,J i)]) (λ_=>[]) ?_ ?_
 .exact⟨⟨rfl,rfl⟩,bt,bt⟩
 .rintro⟨i,a⟩;conv=>whnf
  have b1:i<l.length->lo<=l.getD (i:Int).toNat 0/\l.getD (i:Int).toNat 0<=H:=λH=>h _ (a8 Z);repeat'(first|(exact aH [] ⟨i+1,Z⟩)|refine' bB|fail)
  all_goals first|exact⟨true,rfl,rfl⟩|exact bs|exact⟨false,rfl,by exfalso;omega⟩
theorem lI(l:Line)(h:LineOk l):∃e:Int,e=0/\bx 54 [l.av] (J e):=by
 obtain⟨f,i,g⟩:=h;obtain⟨k,cap,C,w,s⟩:=l;dsimp only at f i;rcases g with⟨H|H,b,a⟩|⟨H,b,a,c⟩|⟨H,b,a,c⟩|⟨H,b,a,c,d⟩
 .dsimp only at H b a;subst H;subst b;subst a;refine dp func54 ntmps54 results54 ?_;repeat'(first|refine' bB|fail)
  all_goals first|exact⟨0,rfl,rfl⟩|exact bs|exact⟨_,rfl,by exfalso;simp at *;omega⟩
 .dsimp only at H b a;subst H;subst b;subst a;refine dp func54 ntmps54 results54 ?_;repeat'(first|refine' bB|fail)
  all_goals first|exact⟨0,rfl,rfl⟩|exact bs|exact⟨_,rfl,by exfalso;simp at *;omega⟩
 .dsimp only at H b a c;subst H;subst c;obtain⟨_,rfl,p⟩:=jt w Z 1 20 a;refine dp func54 ntmps54 results54 ?_;repeat'(first|refine' bB|refine ab p ?_)
  all_goals first|exact⟨0,rfl,rfl⟩|exact bs|exact⟨_,rfl,by exfalso;simp at *;omega⟩
 .dsimp only at H b a c;subst H;subst c;obtain⟨_,rfl,p⟩:=jt w Z 1 6000 a;refine dp func54 ntmps54 results54 ?_;repeat'(first|refine' bB|refine ab p ?_)
  all_goals first|exact⟨0,rfl,rfl⟩|exact bs|exact⟨_,rfl,by exfalso;simp at *;omega⟩
 .dsimp only at H b a c d;subst H;subst b;obtain⟨_,rfl,p⟩:=jt s Z (-1) (C-1) d;refine dp func54 ntmps54 results54 ?_;repeat'(first|refine' bB|refine ab p ?_)
  all_goals first|exact⟨0,rfl,rfl⟩|exact bs|exact⟨_,rfl,by exfalso;simp at *;omega⟩
structure ShapeOk(n:Net)(d:Xa):Prop where
 len:d.length=n.lines.length
 row:∀i:Nat,i<n.lines.length->((d.getD i []).length:Int)=(n.lines.getD i default).classes
 val:∀i j:Nat,i<n.lines.length->j<(d.getD i []).length-> -1<=(d.getD i []).getD j 0/\(d.getD i []).getD j 0<=400
theorem dm(n:Net)(d:Xa)(h:NetOk n)(e:ShapeOk n d):bx 76 [n.av,aB d] (.bool true):=by
 have i:=h.len;have m:=e.len;have a:=e.row;have b:=e.val;have hcl:∀j:Nat,j<n.lines.length->(n.lines.getD j default).classes<=6:=λj g=>(h.line _ (by simp[g])).cls.2;refine ee func76 ntmps76 results76 λ_ _ _=>?_;repeat'(first|refine' aj|refine ab (iV n h) ?_)
 all_goals try omega
 refine⟨(aF (ι:={j:Nat//j<=n.lines.length}) [2,20,21] [2] [] ⟨0,π _⟩ (λj=>n.lines.length-j.1) (λj=>[(22,J j.1)]) (λj=>[]) ?_ ?_).good⟩
 .refine⟨⟨rfl,rfl⟩,?_,?_⟩;all_goals try refine' dw
 .intro j;conv=>whnf
  obtain⟨j,g⟩:=j;repeat(refine gv ?_;conv=>whnf)
  refine aa (λhb=>?_) (λhb=>?_)
  .have H:j<n.lines.length:=by dsimp only at hb;omega
   have o:=a j H;have k:=b j;have p:=hcl j H;conv=>whnf
   repeat'(first|refine' aj|fail)
   all_goals try dsimp only at hb
   all_goals try simp only[χ]at hb
   all_goals try first|omega|(dsimp only;omega)|(dsimp only;simp only[χ];omega)
   refine⟨(aF (ι:={c:Nat//c<=(d.getD j []).length}) [2,20,21,22,36,37] [2] [] ⟨0,π _⟩ (λc=>(d.getD j []).length-c.1) (λc=>[(38,J c.1)]) (λc=>[]) ?_ ?_).good⟩
   .refine⟨⟨rfl,rfl⟩,?_,?_⟩;all_goals try refine' dw
   .intro c;conv=>whnf
    obtain⟨c,l⟩:=c;repeat(refine gv ?_;conv=>whnf)
    refine aa (λhb=>?_) (λhb=>?_)
    .have f:c<(d.getD j []).length:=by dsimp only at hb;simp only[χ]at hb;omega
     have q:=k c H f;conv=>whnf
     repeat'(first|refine' aj|(refine aG [] ⟨c+1,?_⟩ ⟨⟨rfl,rfl⟩,?_,?_⟩ ?_))
     all_goals try dsimp only at hb
     all_goals try simp only[χ]at hb
     all_goals try first|omega|(dsimp only;omega)|(dsimp only;unfold ah;omega)|(dsimp only;simp only[χ];omega)
     .all_goals try refine' dw
     .all_goals try refine' dw
    .conv=>whnf
     repeat'(first|refine' aj|(refine aG [] ⟨j+1,?_⟩ ⟨⟨rfl,rfl⟩,?_,?_⟩ ?_))
     all_goals try first|omega|(dsimp only;omega)|(dsimp only;unfold ah;omega)
     .all_goals try refine' dw
     .all_goals try refine' dw
  .conv=>whnf
   repeat'(first|refine' aj|fail)
   exact Y
theorem bZ{l:List Int}{j:Nat}(h:j<l.length):l.drop j=l.getD j 0::l.drop (j+1):=by
 rw[List.drop_eq_getElem_cons h];simp[h]
def bL(x:Int):List Int->Int->Int
 |[],_=>-1
 |y::l,k=>if y=x then k else bL x l (k+1)
theorem oo(n:Net)(i:Nat)(x:Int)(d:i<n.flows.length)(_hl:n.flows.length<=1000)(c:(n.flows.getD i default).route.length<=1000):bx 94 [n.av,J i,J x] (J (bL x (n.flows.getD i default).route 0)):=by
 obtain⟨r,b⟩:∃r,r=(n.flows.getD i default).route:=⟨_,rfl⟩;rw[<-b]at c⊢;refine' db func94 ntmps94 results94
 all_goals try omega
 refine⟨(aF (ι:={j:Nat//j<=r.length/\bL x (r.drop j) j=bL x r 0}) [1,2,3] [3] [] ⟨0,π _,rfl⟩ (λj=>r.length-j.1) (λj=>[(7,J j.1)]) (λj=>[]) ?_ ?_).good⟩
 .refine⟨⟨rfl,rfl⟩,?_,?_⟩;all_goals try refine' dw
 .intro j;conv=>whnf
  obtain⟨j,f,H⟩:=j;have a:j<r.length->(if r.getD j 0=x then(j:Int)else bL x (r.drop (j+1)) (j+1))=bL x r 0:=λh=>by
   rw[bZ h]at H;exact H
  repeat'(first|refine' aj|(refine aG [] ⟨j+1,?_,?_⟩ ⟨⟨rfl,rfl⟩,?_,?_⟩ ?_))
  all_goals try dsimp only at *
  all_goals try simp only[χ,<-b]at *
  all_goals try exact bs
  .have e:=a Z;rw[if_pos hb]at e;rw[<-e];exact Y
  .have e:=a Z;rw[if_neg hb]at e;exact e
  .all_goals try refine' dw
  .all_goals try refine' dw
  .have e:r.drop j=[]:=List.drop_eq_nil_of_le Z;rw[e]at H;rw[<-H];exact Y
def rr(d:Xa)(c x:Int):Int:=(d.getD x.toNat []).getD c.toNat 0
def cG(a:Int->Int):List Int->Int->Option Int
 |[],s=>some s
 |x::r,s=>if a x<0 then none else cG a r (s+a x)
def vL(d:Xa)(f:Flow):Option Int:=cG (rr d f.class_) f.route (f.route.length-1)
def Br(o:Option Int):AV:=.tup [J (o.getD 0),.bool o.isSome]
theorem FO(n:Net)(d:Xa)(h:NetOk n)(l:ShapeOk n d)(i:Nat)(D:i<n.flows.length) :
  bx 69 [n.av,aB d,J i] (Br (vL d (n.flows.getD i default))):=by
 obtain⟨f,b⟩:∃f,f=n.flows.getD i default:=⟨_,rfl⟩;have a:FlowOk n.lines f:=by rw[b];exact h.flow _ (by simp[D])
 have C:=h.flen;have F:=h.len;have t:=a.ne;have A:=a.cls;have B:=l.len;obtain⟨r,E⟩:∃r,r=f.route:=⟨_,rfl⟩;obtain⟨c,m⟩:∃c,c=f.class_:=⟨_,rfl⟩;have g:∀j:Nat,j<r.length->(0<=r.getD j 0/\r.getD j 0<d.length)/\(0<=c/\c<((d.getD (r.getD j 0).toNat []).length:Int))/\-1<=rr d c (r.getD j 0)/\rr d c (r.getD j 0)<=400:=λj x=>by
  have y:r.getD j 0∈f.route:=by rw[<-E];simp[x]
  have z:=a.lines _ y;have G:=a.cls2 _ y;have I:=l.row (r.getD j 0).toNat Z;have w:=l.val (r.getD j 0).toNat c.toNat Z (by rw[m];omega);refine⟨⟨z.1,Z⟩,⟨Z,Z⟩,w.1,w.2⟩
 rw[show vL d (n.flows.getD i default)=cG (rr d c) r (r.length-1) by rw[vL,<-b,<-m,<-E]];rw[<-E]at t;refine ee func69 ntmps69 results69 λ_ _ _=>?_;repeat'(first|refine' aj|refine ab (dm n d h l) ?_)
 all_goals try omega
 .refine⟨?_⟩;refine aT [1,8] [] [] [(37,c4 r),(38,J r.length),(9,J (r.length-1)),(39,J 0)] [(8,some (.box f.cells))] ⟨⟨rfl,rfl⟩,?_,?_⟩ ?_
  .rw[E,b];all_goals try refine' dw
  .rw[E,b];all_goals try refine' dw
  conv=>whnf
  refine(aF (ι:={p:Nat×Int//p.1<=r.length/\0<=p.2/\p.2<=3+400*p.1/\cG (rr d c) (r.drop p.1) p.2=cG (rr d c) r (r.length-1)}) [1,8,37,38] [8] [] ⟨(0,(r.length:Int)-1),π _,κ,κ,rfl⟩ (λj=>r.length-j.1.1) (λj=>[(9,J j.1.2),(39,J j.1.1)]) (λj=>[]) ?_ ?_).good
  .refine⟨⟨rfl,rfl⟩,?_,?_⟩;all_goals try refine' dw
  .intro j;conv=>whnf
   obtain⟨⟨j,s⟩,x,u,v,H⟩:=j;repeat(refine gv ?_;conv=>whnf)
   refine aa (λhb=>?_) (λhb=>?_)
   .have k:j<r.length:=by dsimp only at hb;omega
    have K:=g j k;have q:=bZ k;dsimp only at H u v;rw[q,cG]at H;have o:(d.getD (r.getD j 0).toNat []).getD f.class_.toNat 0=rr d c (r.getD j 0):=by rw[m];rfl
    conv=>whnf
    repeat'(first|refine' aj|(refine aG [] ⟨(j+1,s+rr d c (r.getD j 0)),?_,?_,?_,?_⟩ ⟨⟨rfl,rfl⟩,?_,?_⟩ ?_))
    all_goals dsimp only at *
    all_goals simp only[χ,o]at *
    all_goals try exact bs
    all_goals try(rw[if_neg hb]at H;exact H)
    all_goals try(rw[if_pos hb]at H;rw[<-H];exact Y)
    .all_goals try refine' dw
    .all_goals try refine' dw
   .conv=>whnf
    repeat'(first|refine' aj|fail)
    have e:r.drop j=[]:=List.drop_eq_nil_of_le (by dsimp only at hb;omega);dsimp only at H;rw[e,cG]at H;dsimp only;rw[<-H];exact Y
 .rw[χ,<-b,<-E];unfold ah;omega
theorem iW(i:Nat):nQ (lG i):=sn i
theorem iX(i:Nat):nQ (dE i):=so i
theorem kK:∀n,∀x∈bR n,nQ x
 |0,_,h=>by cases h
 |n+1,x,h=>by
  rcases List.mem_append.1 h with h|h
  .exact kK n x h
  .rw[List.mem_singleton.1 h];exact iW n
theorem pE{n:Nat}(h:n<=4):(bR n).Nodup:=by
 rcases(Z:n=0\/n=1\/n=2\/n=3\/n=4)with rfl|rfl|rfl|rfl|rfl<;>decide
def ju:Nat->List ByteArray
 |0=>[]
 |n+1=>ju n++[dE n]
theorem pF{n:Nat}(h:n<=5):(ju n).Nodup:=by
 rcases(Z:n=0\/n=1\/n=2\/n=3\/n=4\/n=5)with rfl|rfl|rfl|rfl|rfl|rfl<;>decide
theorem oq{P:Int->Prop}{l:List Int}{f:Rd->Int×Rd}(a:∀x∈l,P x)(H:∀s,P (f s).1):∀(n:Nat) (s:Rd),∀x∈(Rd.many l f n s).1,P x
 |0,_,x,h=>a x h
 |n+1,s,x,h=>by
  rcases List.mem_append.1 h with h|h
  .exact oq a H n s x h
  .rw[List.mem_singleton.1 h];exact H _
theorem CI:∀(n:Nat),∀x∈E3 n,0<=x/\x<n
 |0,_,h=>by cases h
 |n+1,x,h=>by
  rcases List.mem_append.1 h with h|h
  .have:=CI n x h;omega
  .rw[List.mem_singleton.1 h];omega
theorem vM(s:Rd){cap c:Int}(H:1<=cap/\cap<=4000)(h:1<=c/\c<=6):LineOk (s.port2 cap c).1/\(s.port2 cap c).1.classes=c:=by
 have b:=mod_lt (x:=(s.n 4).2.raw.1) (n:=3) Z;unfold Rd.port2;dsimp only;split
 .exact⟨⟨H,h,.inl ⟨.inr rfl,rfl,rfl⟩⟩,rfl⟩
 .split
  .refine⟨⟨H,h,.inr (.inl ⟨rfl,?_,?_,rfl⟩)⟩,rfl⟩
   .show c=((Rd.many [] _ _ _).1.length:Int);rw[Rd.many_len];show c=((0+c.toNat:Nat):Int);omega
   .refine oq (P:=λx=>1<=x/\x<=20) (l:=[]) (λ_ h=>by cases h) (λs=>?_) _ _;have:1<=(s.range 1 3).1/\(s.range 1 3).1<=3:=cq rfl Z;omega
  .split
   .refine⟨⟨H,h,.inr (.inr (.inl ⟨rfl,?_,?_,rfl⟩))⟩,rfl⟩
    .show c=((Rd.many [] _ _ _).1.length:Int);rw[Rd.many_len];show c=((0+c.toNat:Nat):Int);omega
    .refine oq (P:=λx=>1<=x/\x<=6000) (l:=[]) (λ_ h=>by cases h) (λs=>?_) _ _;have:8<=(s.range 8 20).1/\(s.range 8 20).1<=20:=cq rfl Z;omega
   .refine⟨⟨H,h,.inr (.inr (.inr ⟨rfl,rfl,?_,?_,?_⟩))⟩,rfl⟩
    .show 1<=(Rd.many _ _ _ _).1.length;rw[Rd.many_len,lF];omega
    .show(Rd.many _ _ _ _).1.length<=40;rw[Rd.many_len,lF];show _+(KF (s.n 4).2.raw.1 3).toNat<=40;omega
    .refine oq (P:=λx=>-1<=x/\x<=c-1) (λx a=>?_) (λs=>?_) _ _
     .have:=CI _ x a;omega
     .exact cq rfl Z
theorem FP(s:Rd){c:Int}(h:1<=c/\c<=6):LineOk (s.port c).1/\(s.port c).1.classes=c:=by
 have a:4<=(s.range 4 24).1/\(s.range 4 24).1<=24:=cq rfl Z;have H:1<=(s.range 4 24).1/\(s.range 4 24).1<=4000:=Z;unfold Rd.port;split
 .split
  .exact⟨⟨H,h,.inl ⟨.inl rfl,rfl,rfl⟩⟩,rfl⟩
  .exact vM _ H h
 .exact vM _ H h
theorem pG{k:Int}(h:1<=k/\k<=6):∀(n:Nat) (s:Rd),∀l∈(Rd.lines k n s).1,LineOk l/\l.classes=k
 |0,_,_,h=>by cases h
 |n+1,s,l,hl=>by
  rcases List.mem_append.1 hl with H|H
  .exact pG h n s l H
  .rw[List.mem_singleton.1 H];exact FP _ h
def lJ(n:Int)(l:List Int):Bool:=decide (1<=l.length/\l.length<=4)&&l.all (λx=>decide (0<=x/\x<n))&&decide l.Nodup
theorem rz{n:Int}{l:List Int}(h:lJ n l=true):(1<=l.length/\l.length<=4)/\(∀x∈l,0<=x/\x<n)/\l.Nodup:=by
 simp only[lJ,Bool.and_eq_true,decide_eq_true_eq,List.all_eq_true]at h;exact⟨h.1.1,h.1.2,h.2⟩
def z8(n:Nat):Bool:=(List.range n).all λw=>[1,(n:Int)-1].all λt=>(List.range (min 3 n)).all λh=>lJ n (iT (hops w t n (h+1)).1)
theorem CJ{n:Nat}(h:1<=n)(H:n<=4):z8 n=true:=by
 rcases(Z:n=1\/n=2\/n=3\/n=4)with rfl|rfl|rfl|rfl<;>kernel_rfl
theorem FQ{n:Nat}(b:1<=n)(c:n<=4){w t h:Int}(f:0<=w/\w<n)(d:t∈[1,(n:Int)-1])(e:1<=h/\h<=min 3 (n:Int)):lJ n (iT (hops w t n h.toNat).1)=true:=by
 have H:=CJ b c;simp only[z8,List.all_eq_true]at H;have a:=H w.toNat (List.mem_range.2 Z) t d (h.toNat-1) (List.mem_range.2 Z);rw[(Z:((w.toNat:Nat):Int)=w),(Z:h.toNat-1+1=h.toNat)]at a;exact a
theorem z9{b:Int}(h:b<=1073741824):∀n:Nat,fo b (List.replicate n b)=some b
 |0=>rfl
 |n+1=>by
  rw[List.replicate_succ,fo,if_neg Z];exact z9 h n
theorem zA{b:Int}{n i:Nat}(h:i<n):(List.replicate n b).getD i 0=b:=by
 simp[h]
structure ConOk(c:Curve):Prop where
 valid:c.valid=true
 len:1<=c.vals.length/\c.vals.length<=400
 zero:c.vals.getD 0 0=0
 fin:c.vals.getD (c.vals.length-1) 0≠cx
theorem Nk{a b c:Int}(h:0<=a/\a<=1000)(hb:1<=b/\b<=100)(H:0<=c/\c<=1000):ConOk ⟨0::List.replicate b.toNat a,b,c⟩:=by
 obtain⟨p,rfl⟩:∃p:Nat,b=p:=⟨b.toNat,Z⟩;have e:((0:Int)::List.replicate p a).length=p+1:=by simp
 obtain⟨q,rfl⟩:∃q,p=q+1:=⟨p-1,Z⟩;have E:((0:Int)::List.replicate (q+1) a).getD (q+1) 0=a:=zA (b:=a) (n:=q+1) (i:=q) Z;have d:((0:Int)::List.replicate (q+1) a).getD 1 0=a:=zA (b:=a) (n:=q+1) (i:=0) Z;refine⟨?_,?_,rfl,?_⟩
 .have f:fo 0 ((0:Int)::List.replicate (q+1) a)=some a:=by
   rw[fo,if_neg Z,List.replicate_succ,fo,if_neg Z];exact z9 Z q
  unfold Curve.valid;dsimp only;rw[χ,e,f,if_neg Z];dsimp only;rw[if_neg (show¬a=cx by unfold cx;omega),(Z:(((q+1+1:Nat):Int)-((q+1:Nat):Int)).toNat=1),d];exact decide_eq_true Z
 .dsimp only;rw[χ,e];omega
 .dsimp only;rw[χ,e,show q+1+1-1=q+1 from rfl,E];unfold cx;omega
theorem vN(s:Rd):ConOk s.contract.1:=by
 have H:4<=(s.range 4 16).1/\(s.range 4 16).1<=16:=cq rfl Z;have h:=om (l:=[1,2,3,4,6,12]) η (s.range 4 16).2;have a:0<=(((s.range 4 16).2.pick [1,2,3,4,6,12]).2.n 4).1/\(((s.range 4 16).2.pick [1,2,3,4,6,12]).2.n 4).1<4:=KE rfl Z;simp only[List.mem_cons,List.not_mem_nil,or_false]at h;exact Nk Z Z Z
theorem FR(s:Rd){L:List Line}{n:Nat}(Q:L.length=n)(F:1<=n)(G:n<=4)(N:ByteArray){k:Int}(P:1<=k)(hcl:∀i:Nat,i<n->(L.getD i default).classes=k):FlowOk L (s.flow n N k).1/\(s.flow n N k).1.name=N:=by
 obtain⟨c,S,E⟩:∃c S,s.n k=(c,S):=⟨_,_,rfl⟩;obtain⟨q,f,r⟩:∃k f,S.contract=(k,f):=⟨_,_,rfl⟩;obtain⟨a,g,u⟩:∃a g,f.range 1 3=(a,g):=⟨_,_,rfl⟩;obtain⟨b,j,v⟩:∃b j,g.n 5=(b,j):=⟨_,_,rfl⟩;obtain⟨w,e,y⟩:∃w e,j.n n=(w,e):=⟨_,_,rfl⟩;obtain⟨t,o,z⟩:∃t o,e.pick [1,(n:Int)-1]=(t,o):=⟨_,_,rfl⟩;obtain⟨d,p,A⟩:∃d p,o.range 1 (min 3 (n:Int))=(d,p):=⟨_,_,rfl⟩;have B:=KE E Z;have m:=vN S;have I:=cq u Z;have R:=KE v Z;have K:=KE y Z;have C:=om (l:=[1,(n:Int)-1]) η e;have O:=cq A Z;rw[r]at m;rw[z]at C;have h:=rz (FQ F G K C O);have D:s.flow n N k=(⟨N,iT (hops w t n d.toNat).1,c,a,a+b,q⟩,p):=by simp only[Rd.flow,E,r,u,v,y,z,A]
 rw[D];refine⟨⟨h.1,λx H=>?_,h.2.2,B.1,λx H=>?_,⟨?_,?_,?_⟩,m.valid,m.len,m.zero,m.fin⟩,rfl⟩
 .have:=h.2.1 x H;omega
 .have:=h.2.1 x H;rw[hcl x.toNat Z];exact B.2
 .exact I.1
 .dsimp only;omega
 .dsimp only;omega
theorem pH{l:List Line}{n:Nat}(e:l.length=n)(b:1<=n)(c:n<=4){k:Int}(d:1<=k)(hcl:∀i:Nat,i<n->(l.getD i default).classes=k):∀(m:Nat) (s:Rd),
  (∀f∈(Rd.flows n k m s).1,FlowOk l f/\nQ f.name)/\(Rd.flows n k m s).1.map Flow.name=ju m
 |0,_=>⟨λ_ h=>(by cases h),rfl⟩
 |m+1,s=>by
  have I:=pH e b c d hcl m s;have a:=FR (Rd.flows n k m s).2 e b c (dE m) d hcl;refine⟨λf g=>?_,?_⟩
  .rcases List.mem_append.1 g with H|H
   .exact I.1 f H
   .rw[List.mem_singleton.1 H];refine⟨a.1,?_⟩;rw[a.2];exact iX m
  .show List.map Flow.name (_++[_])=ju m++[dE m];rw[List.map_append,I.2,List.map_singleton,a.2]
theorem M4(s:Rd)(L F:Int)(t:1<=L)(u:L<=4)(v:0<=F)(w:F<=5):NetOk (s.net L F).1:=by
 obtain⟨k,g,E⟩:∃k g,s.range 1 2=(k,g):=⟨_,_,rfl⟩;obtain⟨c,a,m⟩:∃c a,g.range 1 L=(c,a):=⟨_,_,rfl⟩;obtain⟨l,j,n⟩:∃l j,Rd.lines k c.toNat a=(l,j):=⟨_,_,rfl⟩;obtain⟨e,S,o⟩:∃e S,j.range 0 F=(e,S):=⟨_,_,rfl⟩;have z:=cq E Z;have A:=cq m Z;have B:=cq o Z;have p:s.net L F=(⟨bR c.toNat,l,(Rd.flows c.toNat k e.toNat S).1⟩,(Rd.flows c.toNat k e.toNat S).2):=by
  simp only[Rd.net,E,m,n,o]
 rw[p];have b:=pG (k:=k) Z c.toNat a;have H:=Rd.lines_len k a c.toNat;have y:=Rd.flows_len c.toNat k S e.toNat;rw[n]at b H;dsimp only at b H;have hcl:∀i:Nat,i<c.toNat->(l.getD i default).classes=k:=λi q=>(b _ (by simp[<-H,q])).2;have h:=pH H.symm Z Z Z hcl e.toNat S;refine⟨?_,?_,?_,?_,?_,?_,?_,?_,?_⟩
 .dsimp only;omega
 .dsimp only;omega
 .show(bR _).length=l.length;rw[<-iU];exact H
 .exact kK _
 .exact pE Z
 .exactλx r=>(b x r).1
 .exactλf d=>(h.1 f d).2
 .show(List.map Flow.name _).Nodup;rw[h.2];exact pF Z
 .exactλf d=>(h.1 f d).1
end Go.Nc