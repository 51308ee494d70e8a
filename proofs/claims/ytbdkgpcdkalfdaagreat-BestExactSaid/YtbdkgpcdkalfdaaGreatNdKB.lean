/- Parts. -/
import Derived.Test.YtbdkgpcdkalfdaaGreatNdKA
namespace Go.Nc
open Go.Proofs.Tryz
open Go.Proofs
set_option maxHeartbeats 8000000
theorem rU:q0e 211 [J 1] (.tup [.iface 224 (.agg []),.bool true]):=by
 refine ee func211 ntmps211 results211 λ_ _ _=>?_;repeat'(first|refine' ak|(refine VLook.mk ⟨none,rfl,?_⟩;conv=>whnf)|(refine VLook.mk ⟨some (_,_),rfl,?_⟩;conv=>whnf))
 all_goals exact Θ
theorem rV:q0e 211 [J 2] (.tup [.iface 225 (.agg []),.bool true]):=by
 refine ee func211 ntmps211 results211 λ_ _ _=>?_;repeat'(first|refine' ak|(refine VLook.mk ⟨none,rfl,?_⟩;conv=>whnf)|(refine VLook.mk ⟨some (_,_),rfl,?_⟩;conv=>whnf))
 all_goals exact Θ
theorem rW:q0e 211 [J 3] (.tup [.iface 226 (.agg []),.bool true]):=by
 refine ee func211 ntmps211 results211 λ_ _ _=>?_;repeat'(first|refine' ak|(refine VLook.mk ⟨none,rfl,?_⟩;conv=>whnf)|(refine VLook.mk ⟨some (_,_),rfl,?_⟩;conv=>whnf))
 all_goals exact Θ
theorem rX:q0e 211 [J 4] (.tup [.iface 227 (.agg []),.bool true]):=by
 refine ee func211 ntmps211 results211 λ_ _ _=>?_;repeat'(first|refine' ak|(refine VLook.mk ⟨none,rfl,?_⟩;conv=>whnf)|(refine VLook.mk ⟨some (_,_),rfl,?_⟩;conv=>whnf))
 all_goals exact Θ
theorem rY:q0e 211 [J 5] (.tup [.iface 228 (.agg []),.bool true]):=by
 refine ee func211 ntmps211 results211 λ_ _ _=>?_;repeat'(first|refine' ak|(refine VLook.mk ⟨none,rfl,?_⟩;conv=>whnf)|(refine VLook.mk ⟨some (_,_),rfl,?_⟩;conv=>whnf))
 all_goals exact Θ
@[irreducible] noncomputable def nmOf(k:Nat):String:=match prog.types[224]? with
 |some t=>(match t.methods[k]? with |some m=>m.name|none=>default)
 |none=>default
theorem tA(w:World):(method (prog.types.size+Made.depth) 224 (.agg #[]) (nmOf 0)).run prog w=.ok (298,.agg #[]) w:=by kernel_rfl
theorem tB(w:World):(method (prog.types.size+Made.depth) 225 (.agg #[]) (nmOf 0)).run prog w=.ok (302,.agg #[]) w:=by kernel_rfl
theorem tC(w:World):(method (prog.types.size+Made.depth) 226 (.agg #[]) (nmOf 0)).run prog w=.ok (312,.agg #[]) w:=by kernel_rfl
theorem tD(w:World):(method (prog.types.size+Made.depth) 227 (.agg #[]) (nmOf 0)).run prog w=.ok (327,.agg #[]) w:=by kernel_rfl
theorem tE(w:World):(method (prog.types.size+Made.depth) 228 (.agg #[]) (nmOf 0)).run prog w=.ok (337,.agg #[]) w:=by kernel_rfl
theorem tF(w:World):(method (prog.types.size+Made.depth) 224 (.agg #[]) (nmOf 1)).run prog w=.ok (299,.agg #[]) w:=by kernel_rfl
theorem tG(w:World):(method (prog.types.size+Made.depth) 225 (.agg #[]) (nmOf 1)).run prog w=.ok (303,.agg #[]) w:=by kernel_rfl
theorem tH(w:World):(method (prog.types.size+Made.depth) 226 (.agg #[]) (nmOf 1)).run prog w=.ok (313,.agg #[]) w:=by kernel_rfl
theorem tI(w:World):(method (prog.types.size+Made.depth) 227 (.agg #[]) (nmOf 1)).run prog w=.ok (328,.agg #[]) w:=by kernel_rfl
theorem tJ(w:World):(method (prog.types.size+Made.depth) 228 (.agg #[]) (nmOf 1)).run prog w=.ok (338,.agg #[]) w:=by kernel_rfl
def Nz(l:Line):Prop:=((l.kind=1\/l.kind=2)/\l.weights=[]/\l.slots=[])\/(l.kind=3/\l.classes=l.weights.length/\(∀x∈l.weights,1<=x/\x<=20)/\l.slots=[])\/
 (l.kind=4/\l.classes=l.weights.length/\(∀x∈l.weights,1<=x/\x<=6000)/\l.slots=[])\/(l.kind=5/\l.weights=[]/\1<=l.slots.length/\l.slots.length<=40/\∀x∈l.slots,-1<=x/\x<=l.classes-1)
structure LineOk(l:Line):Prop where
 cap:1<=l.cap/\l.cap<=4000
 cls:1<=l.classes/\l.classes<=6
 kind:Nz l
structure FlowOk(ls:List Line)(f:Flow):Prop where
 ne:1<=f.route.length/\f.route.length<=4
 lines:∀x∈f.route,0<=x/\x<ls.length
 nodup:f.route.Nodup
 cls:0<=f.class_
 cls2:∀x∈f.route,f.class_<(ls.getD x.toNat default).classes
 sizes:1<=f.least/\f.least<=f.most/\f.most<=1500
 valid:f.con.valid=true
 len:1<=f.con.vals.length/\f.con.vals.length<=400
 zero:f.con.vals.getD 0 0=0
 fin:f.con.vals.getD (f.con.vals.length-1) 0≠cx
theorem C4(c:Curve)(H:1<=c.vals.length/\c.vals.length<=400)(h:c.vals.getD (c.vals.length-1) 0≠cx):q0e 182 [c.av] (.bool true):=by
 have e:((c.vals.length:Int)-1).toNat=c.vals.length-1:=Z;refine' db func182 ntmps182 results182
 all_goals first|exact bs|skip
 refine Ξ ?_;show AV.bool (!decide (c.vals.getD ((c.vals.length:Int)-1).toNat 0=4611686018427387904))=_;rw[e,decide_eq_false (show¬c.vals.getD (c.vals.length-1) 0=4611686018427387904 from h)];rfl
theorem x8(c:Curve)(b:c.valid=true)(a:1<=c.vals.length/\c.vals.length<=400)(H:c.vals.getD (c.vals.length-1) 0≠cx):q0e 212 [c.av] (.bool true):=by
 have h:=dX c;rw[b]at h;refine ee func212 ntmps212 results212 λ_ _ _=>?_;repeat'(first|refine' ak|refine ab (C4 c a H) ?_)
 all_goals try dsimp only at hb
 all_goals try simp only[β]at hb
 all_goals first|exact Θ|exactλ_ _=>rfl|omega|(dsimp only;omega)|(dsimp only;unfold ah;omega)|((repeat'(first|exact True.intro|refine And.intro ?_ ?_))<;>first|rfl|exactλ_ _=>rfl|(refine Γ ?_;dsimp only;omega)|((conv=>whnf)<;>first|exact Θ|exact cy|(refine Γ ?_;dsimp only;omega)))
theorem v5{x:Int}:∀{l:List Int} (i:Nat),x∉l->qZ (J x) (l.map λy=>(J y,.bool true)) i=some none
 |[],_,_=>rfl
 |y::l,i,h=>by
  simp only[List.mem_cons,not_or]at h;simp only[List.map_cons,qZ,if_neg h.1];exact v5 (i+1) h.2
theorem zj{ids:List Nat}{l:List Int}:∀k v,(k,v)∈(l.map λy=>((J y:AV),(.bool true:AV)))->gu ids k=true/\gu ids v=true:=λk v H=>by
 obtain⟨x,_,h⟩:=List.mem_map.1 H;cases h;exact⟨rfl,rfl⟩
def FH(l:List Int):List (AV×AV):=l.map λy=>(J y,.bool true)
theorem kq{l:List Int}{j:Nat}(h:j<l.length):l.take (j+1)=l.take j++[l.getD j 0]:=by
 rw[List.take_add_one];simp[h]
def nF(s:ByteArray):Prop:=WordP s
def jX(l:List ByteArray):List (AV×AV):=l.map λy=>(.str y,.bool true)
theorem gO{ids:List Nat}{l:List ByteArray}:∀k v,(k,v)∈(l.map λy=>((.str y:AV),(.bool true:AV)))->gu ids k=true/\gu ids v=true:=λk v H=>by
 obtain⟨x,_,h⟩:=List.mem_map.1 H;cases h;exact⟨rfl,rfl⟩
theorem mP{x:ByteArray}:∀{l:List ByteArray} (i:Nat),x∉l->qZ (.str x) (l.map λy=>(.str y,.bool true)) i=some none
 |[],_,_=>rfl
 |y::l,i,h=>by
  simp only[List.mem_cons,not_or]at h;simp only[List.map_cons,qZ,if_neg h.1];exact mP (i+1) h.2
structure NetOk(n:Net):Prop where
 len:1<=n.lines.length/\n.lines.length<=8
 flen:n.flows.length<=10
 nlen:n.names.length=n.lines.length
 word:∀x∈n.names,nF x
 nodup:n.names.Nodup
 line:∀l∈n.lines,LineOk l
 fword:∀f∈n.flows,nF f.name
 fnodup:(n.flows.map Flow.name).Nodup
 flow:∀f∈n.flows,FlowOk n.lines f
theorem LI{l:List ByteArray}{j:Nat}(h:j<l.length)(d:ByteArray):l.take (j+1)=l.take j++[l.getD j d]:=by
 rw[List.take_add_one];simp[h]
theorem C5{l:List ByteArray}(h:l.Nodup){j:Nat}(b:j<l.length)(d:ByteArray):l.getD j d∉l.take j:=by
 intro c;have e:l.getD j d=l[j]:=by simp[b]
 rw[e]at c;obtain⟨i,f,a⟩:=List.mem_iff_getElem.1 c;simp only[List.length_take]at f;rw[List.getElem_take]at a;have H:i<j:=Z;exact(List.pairwise_iff_getElem.1 h) i j Z b H a
def v6(l:List Int):Nat->Int
 |0=>0
 |j+1=>l.getD j 0
theorem C6{c:Curve}(h:c.valid=true):1<=c.vals.length/\c.vals.length<=400:=by
 unfold Curve.valid at h;split at h
 .cases h
 .omega
theorem cV(c:Curve):∃b:Bool,b=c.valid/\q0e 95 [c.av] (.bool b):=by
 by_cases w:1<=c.vals.length/\c.vals.length<=400/\1<=c.per/\c.per<=120/\c.per<=c.vals.length/\0<=c.inc/\c.inc<=1073741824
 .have q:((c.vals.length:Int)-1).toNat=c.vals.length-1:=Z;have H:c.valid=match fo 0 c.vals with
   |none=>false
   |some last=>if last=cx then decide (c.per=1)&&decide (c.inc=0)else decide (last<=c.vals.getD (c.vals.length-c.per).toNat 0+c.inc):=by
   unfold Curve.valid;rw[if_neg Z];rfl
  refine dp func95 ntmps95 results95 ?_;repeat'(first|refine' aj|fail)
  all_goals try first|exact bs|(exfalso;omega)|(exfalso;dsimp only at *;omega)
  refine ae (ι:={j:Nat//j<=c.vals.length/\0<=v6 c.vals j/\v6 c.vals j<=cx/\fo 0 c.vals=fo (v6 c.vals j) (c.vals.drop j)}) [1,3] [1] [] ⟨0,χ _,Int.le_refl 0,(η:(0:Int)<=cx),rfl⟩ (λ⟨j,_⟩=>c.vals.length-j) (λ⟨j,_⟩=>[(4,J j)]) (λ_=>[]) ?_ ?_
  .exact⟨⟨rfl,rfl⟩,bt,bt⟩
  .rintro⟨j,y,g,a,d⟩;conv=>whnf
   by_cases f:(j:Int)<c.vals.length
   .obtain⟨v,n⟩:∃v,v=c.vals.getD j 0:=⟨_,rfl⟩;have o:c.vals.getD (j:Int).toNat 0=v:=by rw[n];rfl
    obtain⟨p,r⟩:∃p,p=v6 c.vals j:=⟨_,rfl⟩;have E:0<j->c.vals.getD ((j:Int)-1).toNat 0=p:=λh=>by
     rw[r,(Z:((j:Int)-1).toNat=j-1)];cases j with
     |zero=>omega
     |succ j=>rfl
    have s:j=0->p=0:=λh=>by rw[r,h];rfl
    rw[<-r]at g a d;have m:=oS (Z:j<c.vals.length) d;rw[<-n]at m;unfold cx at m;by_cases x:(v=4611686018427387904\/(0<=v/\v<=1073741824))/\p<=v
    .rw[if_neg Z]at m;repeat'(first|(refine U f λhb=>?_;conv=>whnf)|(exact aQ [] ⟨j+1,Z,by show 0<=c.vals.getD j 0;rw[<-n];omega,by show c.vals.getD j 0<=cx;rw[<-n];unfold cx;omega,by show _=fo (c.vals.getD j 0) _;rw[<-n];exact m⟩ ⟨⟨rfl,rfl⟩,bt,bt⟩ (by first|omega|(dsimp only;omega)))|refine' aj|fail)
     all_goals try exact bs
     all_goals(try(have e:=E Z;rw[e]at *));(try rw[o]at *);exfalso;omega
    .rw[if_pos Z]at m;rw[m]at H;repeat'(first|(refine U f λhb=>?_;conv=>whnf)|refine' aj|fail)
     all_goals try first|exact bs|exact ag ⟨false,rfl,H.symm⟩
     all_goals(try(have e:=E Z;rw[e]at *));(try rw[o]at *);exfalso;(try have u:=s Z);omega
   .have t:j=c.vals.length:=Z;subst t;rw[List.drop_eq_nil_of_le (π _)]at d;have l:v6 c.vals c.vals.length=c.vals.getD (c.vals.length-1) 0:=by
     cases hn:c.vals.length with
     |zero=>omega
     |succ k=>rfl
    rw[l]at d g a;have hq:=(mM d).2 _ (a9 (i:=((c.vals.length:Int)-c.per).toNat) Z);unfold cx at hq a;rw[<-q]at d g a;have d:fo 0 c.vals=some (c.vals.getD ((c.vals.length:Int)-1).toNat 0):=d;rw[d]at H;dsimp only at H;unfold cx at H;repeat'(first|(refine M f λhb=>?_;conv=>whnf)|refine' aj|fail)
    all_goals try exact bs
    .exact ag ⟨_,rfl,by rw[H,if_pos ‹_›,decide_eq_true (p:=c.per=1) ‹_›];rfl⟩
    .exact ag ⟨false,rfl,by rw[H,if_pos ‹_›,decide_eq_false (p:=c.per=1) ‹_›];rfl⟩
    .exact ag ⟨_,rfl,by rw[H,if_neg ‹_›]⟩
 .have H:c.valid=false:=by
   unfold Curve.valid;rw[if_pos Z]
  refine dp func95 ntmps95 results95 ?_;repeat'(first|refine' aj|fail)
  all_goals try first|exact ag ⟨false,rfl,H.symm⟩
  all_goals exfalso;omega
theorem lw(c:Curve)(h:c.valid=true):∃b:Bool,(b=true↔c.vals.getD (c.vals.length-1) 0≠cx)/\q0e 97 [c.av] (.bool b):=by
 obtain⟨b,hb,p⟩:=cV c;rw[h]at hb;subst hb;have H:=C6 h;have e:((c.vals.length:Int)-1).toNat=c.vals.length-1:=Z;refine dp func97 ntmps97 results97 ?_;repeat'(first|refine' aj|fail)
 all_goals try first|exact bs|(exfalso;omega)|(exfalso;dsimp only at *;omega)
 exact ag ⟨_,rfl,by
  show(!decide (c.vals.getD ((c.vals.length:Int)-1).toNat 0=4611686018427387904))=true↔_;rw[e];simp[cx]⟩
theorem tK{α:Type}{l:List α}(h:l.Nodup){i j:Nat}(H:i<l.length)(a:j<l.length)(d:α)(e:l.getD i d=l.getD j d):i=j:=by
 rw[γ,γ,υ H,υ a]at e;exact(List.getElem_inj h).1 (by simpa using e)
theorem tL{α:Type}{l:List α}(h:l.Nodup)(d:α){j:Nat}(b:j<l.length):l.getD j d∉l.take j:=by
 intro e;obtain⟨i,c,H⟩:=List.mem_iff_getElem.1 e;rw[γ,υ b]at H;simp only[List.length_take]at c;rw[List.getElem_take]at H;have a:i<j:=Z;exact(List.pairwise_iff_getElem.1 h) i j Z b a H
theorem v7(n lo h:Int)(H:lo<=n)(a:n<=h):q0e 318 [J n,.ibox [J lo] 0,.ibox [J h] 0] (.bool false):=by
 refine' db func318 ntmps318 results318
 all_goals first|omega|exact Θ|exact Ξ (by rw[decide_eq_false Z];rfl)
theorem FI(l:List Int)(lo H:Int)(h:∀x∈l,lo<=x/\x<=H)(d:l.length<=2000):q0e 325 [c4 l,.fn 318 [.ibox [J lo] 0,.ibox [J H] 0]] (J (-1)):=by
 have b:∀i:Nat,i<l.length->lo<=l.getD i 0/\l.getD i 0<=H:=λi a=>h _ (by simp[a]);refine' db func325 ntmps325 results325
 refine⟨(aG (ι:={j:Nat//j<=l.length}) [0,1,7] [] [] ⟨0,χ _⟩ (λj=>l.length-j.1) (λj=>[(8,J j.1)]) (λj=>[]) ?_ ?_).good⟩
 .refine⟨⟨rfl,rfl⟩,?_,?_⟩;all_goals try refine' dw
 .intro j;conv=>whnf
  obtain⟨j,c⟩:=j;repeat'(first|refine' ak|(refine ab (v7 _ lo H (b j (by dsimp only at *;omega)).1 (b j (by dsimp only at *;omega)).2) ?_)|(refine aH [] ⟨j+1,?_⟩ ⟨⟨rfl,rfl⟩,?_,?_⟩ ?_))
  all_goals try dsimp only at hb
  all_goals try simp only[β]at hb
  all_goals first|exact Θ|exactλ_ _=>rfl|omega|(dsimp only;omega)|(dsimp only;unfold ah;omega)|((repeat'(first|exact True.intro|refine And.intro ?_ ?_))<;>first|rfl|exactλ_ _=>rfl|(refine Γ ?_;dsimp only;omega)|((conv=>whnf)<;>first|exact Θ|exact cy|(refine Γ ?_;dsimp only;omega)))
theorem Ik(l:List Int)(lo H:Int)(h:∀x∈l,lo<=x/\x<=H)(a:l.length<=2000):q0e 317 [c4 l,.fn 318 [.ibox [J lo] 0,.ibox [J H] 0]] (.bool false):=by
 refine ee func317 ntmps317 results317 λ_ _ _=>?_;repeat'(first|refine' ak|refine ab (FI l lo H h a) ?_)
 all_goals try dsimp only at hb
 all_goals try simp only[β]at hb
 all_goals first|exact Θ|exactλ_ _=>rfl|omega|(dsimp only;omega)|(dsimp only;unfold ah;omega)|((repeat'(first|exact True.intro|refine And.intro ?_ ?_))<;>first|rfl|exactλ_ _=>rfl|(refine Γ ?_;dsimp only;omega)|((conv=>whnf)<;>first|exact Θ|exact cy|(refine Γ ?_;dsimp only;omega)))
theorem kC(l:List Int)(lo H:Int)(h:∀x∈l,lo<=x/\x<=H)(a:l.length<=2000):q0e 315 [c4 l,J lo,J H] (.bool true):=by
 refine ee func315 ntmps315 results315 λ_ _ _=>?_;refine gv ?_;conv=>whnf
 refine jI 4 rfl rfl rfl ?_ ?_ ?_;rotate_left;rotate_left;refine jI 5 rfl rfl rfl ?_ ?_ ?_;rotate_left;rotate_left;refine aT [] [] [] [(0,c4 l),(4,.ibox [J lo] 0),(5,.ibox [J H] 0)] [] ⟨⟨rfl,rfl⟩,?_,?_⟩ ?_;rotate_left;rotate_left;conv=>whnf
 repeat'(first|refine' ak|refine ab (Ik l lo H h a) ?_)
 all_goals try refine' frzZ
 all_goals try dsimp only at hb
 all_goals try simp only[β]at hb
 all_goals first|exact Θ|exactλ_ _=>rfl|omega|(dsimp only;omega)|(dsimp only;unfold ah;omega)|((repeat'(first|exact True.intro|refine And.intro ?_ ?_))<;>first|rfl|exactλ_ _=>rfl|(refine Γ ?_;dsimp only;omega)|((conv=>whnf)<;>first|exact Θ|exact cy|(refine Γ ?_;dsimp only;omega)))
theorem iq(m:Nat)(H:m<=10):q0e 301 [.bool true,.isl m 1 λ_=>[c4 []]] (J 0):=by
 refine' db func301 ntmps301 results301
 refine⟨(aG (ι:={j:Nat//j<=m}) [9,10] [] [] ⟨0,χ _⟩ (λj=>m-j.1) (λj=>[(11,J j.1)]) (λj=>[]) ?_ ?_).good⟩
 .refine⟨⟨rfl,rfl⟩,?_,?_⟩;all_goals try dsimp only at hb
  all_goals try simp only[β]at hb
  all_goals first|exact Θ|exactλ_ _=>rfl|omega|(dsimp only;omega)|(dsimp only;unfold ah;omega)|((repeat'(first|exact True.intro|refine And.intro ?_ ?_))<;>first|rfl|exactλ_ _=>rfl|(refine Γ ?_;dsimp only;omega)|((conv=>whnf)<;>first|exact Θ|exact cy|(refine Γ ?_;dsimp only;omega)))
 .intro j;conv=>whnf
  obtain⟨j,h⟩:=j;repeat'(first|refine' ak|(refine aH [] ⟨j+1,?_⟩ ⟨⟨rfl,rfl⟩,?_,?_⟩ ?_))
  all_goals try dsimp only at hb
  all_goals try simp only[β]at hb
  all_goals first|exact Θ|exactλ_ _=>rfl|omega|(dsimp only;omega)|(dsimp only;unfold ah;omega)|((repeat'(first|exact True.intro|refine And.intro ?_ ?_))<;>first|rfl|exactλ_ _=>rfl|(refine Γ ?_;dsimp only;omega)|((conv=>whnf)<;>first|exact Θ|exact cy|(refine Γ ?_;dsimp only;omega)))
theorem C8(k cap c:Int):q0e 298 [.agg [],Line.av ⟨k,cap,c,[],[]⟩] (J 0):=by
 refine ee func298 ntmps298 results298 λ_ _ _=>?_;repeat'(first|refine' ak|(refine bR [.bool true] [] (iq 2 Z) rfl (π _) ?_ ?_ ?_;rotate_left;rotate_left;conv=>whnf))
 all_goals first|exact Θ|exact aM (by repeat'(first|exact True.intro|rfl|refine And.intro ?_ ?_))
theorem Ba(k cap c:Int):q0e 302 [.agg [],Line.av ⟨k,cap,c,[],[]⟩] (J 0):=by
 refine ee func302 ntmps302 results302 λ_ _ _=>?_;repeat'(first|refine' ak|(refine bR [.bool true] [] (iq 2 Z) rfl (π _) ?_ ?_ ?_;rotate_left;rotate_left;conv=>whnf))
 all_goals first|exact Θ|exact aM (by repeat'(first|exact True.intro|rfl|refine And.intro ?_ ?_))
theorem Bb(k cap c:Int)(w:List Int)(H:c=w.length)(h:∀x∈w,1<=x/\x<=20)(a:w.length<=2000):q0e 312 [.agg [],Line.av ⟨k,cap,c,w,[]⟩] (J 0):=by
 subst H;refine ee func312 ntmps312 results312 λ_ _ _=>?_;repeat'(first|refine' ak|refine ab (kC w 1 20 h a) ?_|(refine bR [.bool true] [] (iq 1 Z) rfl (π _) ?_ ?_ ?_;rotate_left;rotate_left;conv=>whnf))
 all_goals first|exact Θ|exact absurd rfl hb|exact aM (by repeat'(first|exact True.intro|rfl|refine And.intro ?_ ?_))
theorem tM(k cap c:Int)(w:List Int)(H:c=w.length)(h:∀x∈w,1<=x/\x<=6000)(a:w.length<=2000):q0e 327 [.agg [],Line.av ⟨k,cap,c,w,[]⟩] (J 0):=by
 subst H;refine ee func327 ntmps327 results327 λ_ _ _=>?_;repeat'(first|refine' ak|refine ab (kC w 1 6000 h a) ?_|(refine bR [.bool true] [] (iq 1 Z) rfl (π _) ?_ ?_ ?_;rotate_left;rotate_left;conv=>whnf))
 all_goals first|exact Θ|exact absurd rfl hb|exact aM (by repeat'(first|exact True.intro|rfl|refine And.intro ?_ ?_))
theorem Bc(k cap c:Int)(s:List Int)(H:1<=s.length)(a:s.length<=40)(b:1<=c/\c<=1000)(h:∀x∈s,-1<=x/\x<=c-1):q0e 337 [.agg [],Line.av ⟨k,cap,c,[],s⟩] (J 0):=by
 refine ee func337 ntmps337 results337 λ_ _ _=>?_;repeat'(first|refine' ak|(refine ab (kC s (-1) (c-1) h Z) ?_)|(refine bR [.bool true] [] (iq 1 Z) rfl (π _) ?_ ?_ ?_;rotate_left;rotate_left;conv=>whnf))
 all_goals try dsimp only at hb
 all_goals first|exact Θ|omega|(dsimp only;unfold ah;omega)|exact aM (by repeat'(first|exact True.intro|rfl|refine And.intro ?_ ?_))
theorem ji(l:Line)(t:Nat)(f:FuncId)(a:1<=l.cap/\l.cap<=4000)(c:1<=l.classes/\l.classes<=6)(b:q0e 211 [J l.kind] (.tup [.iface t (.agg []),.bool true]))
  (H:∀w,(method (prog.types.size+Made.depth) t (.agg #[]) (nmOf 0)).run prog w=.ok (f,.agg #[]) w) (h:q0e f [.agg [],l.av] (J 0)):q0e 151 [l.av] (J 0):=by
 refine ee func151 ntmps151 results151 λ_ _ _=>?_;repeat'(first|refine' ak|(refine VInv.mk ⟨f,λw=>Eq.trans (by kernel_rfl) (H w),?_⟩;refine am h ?_;conv=>whnf))
 all_goals first|omega|exact Θ
theorem oX(l:Line)(h:LineOk l):q0e 151 [l.av] (J 0):=by
 obtain⟨d,c,g⟩:=h;obtain⟨k,cap,C,w,s⟩:=l;rcases g with⟨H|H,a,b⟩|⟨H,a,b,e⟩|⟨H,a,b,e⟩|⟨H,a,b,e,f⟩
 .dsimp only at H a b d c;subst H;subst a;subst b;exact ji _ 224 298 d c rU tA (C8 _ _ _)
 .dsimp only at H a b d c;subst H;subst a;subst b;exact ji _ 225 302 d c rV tB (Ba _ _ _)
 .dsimp only at H a b e d c;subst H;subst e;exact ji _ 226 312 d c rW tC (Bb _ _ _ _ a b Z)
 .dsimp only at H a b e d c;subst H;subst e;exact ji _ 227 327 d c rX tD (tM _ _ _ _ a b Z)
 .dsimp only at H a b e f d c;subst H;subst a;exact ji _ 228 337 d c rY tE (Bc _ _ _ _ b e ⟨c.1,Z⟩ f)
theorem v8(l:List Line)(f:Flow)(h:FlowOk l f):q0e 153 [f.av] (J 0):=by
 have H:=dX f.con;rw[h.valid]at H;have c:=h.zero;have b:=h.sizes;have a:=h.len;refine ee func153 ntmps153 results153 λ_ _ _=>?_;repeat'(first|refine' ak|refine ab (x8 f.con h.valid h.len h.fin) ?_)
 all_goals first|omega|exact Θ|exact absurd h.zero hb
theorem Bd(n:Net)(f:Flow)(h:FlowOk n.lines f):q0e 152 [n.av,f.av] (J 0):=by
 have g:=h.ne;have b:∀j:Nat,j<f.route.length->f.route.getD j 0∈f.route:=λj a=>by simp[a]
 have d:∀j:Nat,j<f.route.length->f.route.getD j 0∉f.route.take j:=λj a=>tL h.nodup 0 a;have c:∀j:Nat,j<f.route.length->0<=f.route.getD j 0/\f.route.getD j 0<n.lines.length:=λj a=>h.lines _ (b j a);have hcl:∀j:Nat,j<f.route.length->f.class_<(n.lines.getD (f.route.getD j 0).toNat default).classes:=λj a=>h.cls2 _ (b j a);have e:=h.cls;refine' db func152 ntmps152 results152
 .omega
 .omega
 refine⟨(aG (ι:={j:Nat//j<=f.route.length}) [2,3,5,18,19] [2,3] [] ⟨0,χ _⟩ (λj=>f.route.length-j.1) (λj=>[(20,J j.1)]) (λj=>[(16,some (.map (FH (f.route.take j.1))))]) ?_ ?_).good⟩
 .refine⟨⟨rfl,rfl⟩,?_,?_⟩;all_goals try refine' dw
  all_goals exact zj
 .intro j;conv=>whnf
  obtain⟨j,a⟩:=j;repeat(refine gv ?_;conv=>whnf)
  refine aa (λhb=>?_) (λhb=>?_)
  .have H : j<f.route.length:=by dsimp only at hb;omega
   have i:=c j H;have k:=hcl j H;conv=>whnf
   repeat'(first|refine' ak|(refine VLook.mk ⟨none,v5 0 (d j H),?_⟩;conv=>whnf)|(refine aH [] ⟨j+1,?_⟩ ⟨⟨rfl,rfl⟩,?_,?_⟩ ?_))
   all_goals try dsimp only at hb
   all_goals try simp only[β]at hb
   all_goals try first|omega|(dsimp only;omega)|(dsimp only;unfold ah;omega)|(dsimp only;simp only[β];omega)
   ·(repeat'(first|exact True.intro|refine And.intro ?_ ?_))<;>first
     |rfl
     |exact zj
     | (conv => whnf
        first
         | (show ObLe (.map (FH (f.route.take j)++[(J (f.route.getD j 0),.bool true)])) (.map (List.map _ (FH (f.route.take (j+1)))))
            refine ObLe.of_eq ?_;rw[kq H];simp[FH,px];rfl)
         |exact cy)
   .all_goals try refine' dw
  .conv=>whnf
   repeat'(first|refine' ak|fail)
   exact Θ
theorem Il(k:List ByteArray)(n:ByteArray)(H:q0e 210 [.str n] (.bool true))(h:n∉k):bx 150 [.mref 37,.str n] [(37,.map (jX k))] (J 0) [(37,.map (jX (k++[n])))]:=by
 refine ee func150 ntmps150 results150 (λ_ _ _=>?_) (hcl:=⟨rfl,rfl,rfl,bN gO,bN gO,rfl⟩);repeat'(first|refine' gg|refine ab H ?_|(refine VLook.mk ⟨none,mP 0 h,?_⟩;conv=>whnf))
 .exact Θ
 .show some (LObj.map (jX k++[(.str n,.bool true)]))=_;simp[jX]
theorem In(k:List ByteArray)(n:ByteArray)(H:q0e 210 [.str n] (.bool true))(h:n∉k):bx 150 [.mref 62,.str n] [(62,.map (jX k))] (J 0) [(62,.map (jX (k++[n])))]:=by
 refine ee func150 ntmps150 results150 (λ_ _ _=>?_) (hcl:=⟨rfl,rfl,rfl,bN gO,bN gO,rfl⟩);repeat'(first|refine' gg|refine ab H ?_|(refine VLook.mk ⟨none,mP 0 h,?_⟩;conv=>whnf))
 .exact Θ
 .show some (LObj.map (jX k++[(.str n,.bool true)]))=_;simp[jX]
theorem kD(n:Net)(h:NetOk n):q0e 84 [n.av] (J 0):=by
 have l:=h.len;have o:=h.flen;have f:=h.nlen;have p:∀j:Nat,j<n.lines.length->LineOk (n.lines.getD j default):=λj a=>h.line _ (by simp[a]);have q:∀j:Nat,j<n.lines.length->nF (n.names.getD j .empty):=λj a=>h.word _ (by simp[f,a]);have g:∀j:Nat,j<n.lines.length->n.names.getD j .empty∉n.names.take j:=λj a=>C5 h.nodup Z _;have k:∀j:Nat,j<n.flows.length->FlowOk n.lines (n.flows.getD j default):=λj a=>h.flow _ (by simp[a]);have e:∀j:Nat,j<n.flows.length->nF (n.flows.getD j default).name:=λj a=>h.fword _ (by simp[a]);have b:∀j:Nat,j<n.flows.length->(n.flows.map Flow.name).getD j .empty=(n.flows.getD j default).name:=λj a=>by simp[a]
 have d:∀j:Nat,j<n.flows.length->(n.flows.getD j default).name∉(n.flows.map Flow.name).take j:=λj a=>by
  rw[<-b j a];exact C5 h.fnodup (by simpa using a) _
 refine' db func84 ntmps84 results84
 all_goals try omega
 refine⟨(aG (ι:={j:Nat//j<=n.lines.length}) [1,3,39,40] [1] [] ⟨0,χ _⟩ (λj=>n.lines.length-j.1) (λj=>[(41,J j.1)]) (λj=>[(37,some (.map (jX (n.names.take j.1))))]) ?_ ?_).good⟩
 .refine⟨⟨rfl,rfl⟩,?_,?_⟩;all_goals try refine' dw
  all_goals exact gO
 .intro j;conv=>whnf
  obtain⟨j,a⟩:=j;repeat(refine gv ?_;conv=>whnf)
  refine aa (λhb=>?_) (λhb=>?_)
  .have H : j<n.lines.length:=by dsimp only at hb;omega
   have c:=Il (n.names.take j) (n.names.getD j .empty) (C3 (q j H)) (g j H);have m:=oX _ (p j H);conv=>whnf
   repeat'(first|refine' ak|refine bT c ?_|(refine aH [] ⟨j+1,?_⟩ ⟨⟨rfl,rfl⟩,?_,?_⟩ ?_))
   all_goals try dsimp only at hb
   all_goals try first|omega|(dsimp only;omega)|(dsimp only;unfold ah;omega)|(dsimp only;simp only[β];omega)
   ·(repeat'(first|exact True.intro|refine And.intro ?_ ?_))<;>first
     |rfl
     |exact gO
     | (conv => whnf
        first
         | (show ObLe (.map (jX (n.names.take j++[n.names.getD j .empty]))) (.map (List.map _ (jX (n.names.take (j+1)))))
            refine ObLe.of_eq ?_;rw[LI (Z:j<n.names.length) .empty];simp[jX,px];rfl)
         |exact cy)
   .all_goals try refine' dw
  .conv => whnf
   repeat'(first|refine' ak|fail)
   refine⟨(aG (ι:={j:Nat//j<=n.flows.length}) [1,8,64,65] [1] [] ⟨0,χ _⟩ (λj=>n.flows.length-j.1) (λj=>[(66,J j.1)]) (λj=>[(62,some (.map (jX ((n.flows.map Flow.name).take j.1))))]) ?_ ?_).good⟩
   .refine⟨⟨rfl,rfl⟩,?_,?_⟩;all_goals try refine' dw
    all_goals exact gO
   .intro i;conv=>whnf
    obtain⟨i,s⟩:=i;repeat(refine gv ?_;conv=>whnf)
    refine aa (λhb=>?_) (λhb=>?_)
    .have H : i<n.flows.length:=by dsimp only at hb;omega
     have c:=In ((n.flows.map Flow.name).take i) (n.flows.getD i default).name (C3 (e i H)) (d i H);have m:=Bd n _ (k i H);have r:=v8 _ _ (k i H);conv=>whnf
     repeat'(first|refine' ak|refine bT c ?_|(refine aH [] ⟨i+1,?_⟩ ⟨⟨rfl,rfl⟩,?_,?_⟩ ?_))
     all_goals try dsimp only at hb
     all_goals try first|omega|(dsimp only;omega)|(dsimp only;unfold ah;omega)|(dsimp only;simp only[β];omega)
     ·(repeat'(first|exact True.intro|refine And.intro ?_ ?_))<;>first
       |rfl
       |exact gO
       | (conv => whnf
          first
           | (show ObLe (.map (jX ((n.flows.map Flow.name).take i++[(n.flows.getD i default).name]))) (.map (List.map _ (jX ((n.flows.map Flow.name).take (i+1)))))
              refine ObLe.of_eq ?_;rw[LI (show i<(n.flows.map Flow.name).length by simpa using H) .empty,b i H];simp[jX,px];rfl)
           |exact cy)
     .all_goals try refine' dw
    .conv=>whnf
     repeat'(first|refine' ak|fail)
     exact Θ
theorem jj(l:List Int)(c:l.length<=100000)(lo H:Int)(h:∀x∈l,lo<=x/\x<=H):∃b:Bool,b=true/\q0e 148 [c4 l,J lo,J H] (.bool b):=by
 refine dp func148 ntmps148 results148 ?_;repeat'(first|refine' b7|fail)
 refine ae (ι:={i:Nat//i<=l.length}) [0,1,2] [] [] ⟨0,Z⟩ (λ⟨i,_⟩=>l.length-i) (λ⟨i,_⟩=>[(7,J i)]) (λ_=>[]) ?_ ?_
 .exact⟨⟨rfl,rfl⟩,bt,bt⟩
 .rintro⟨i,a⟩;conv=>whnf
  have b1:i<l.length->lo<=l.getD (i:Int).toNat 0/\l.getD (i:Int).toNat 0<=H:=λH=>h _ (a9 Z);repeat'(first|(exact aI [] ⟨i+1,Z⟩)|refine' b7|fail)
  all_goals first|exact⟨true,rfl,rfl⟩|exact bs|exact⟨false,rfl,by exfalso;omega⟩
theorem lx(l:Line)(h:LineOk l):∃e:Int,e=0/\q0e 81 [l.av] (J e):=by
 obtain⟨f,i,g⟩:=h;obtain⟨k,cap,C,w,s⟩:=l;dsimp only at f i;rcases g with⟨H|H,b,a⟩|⟨H,b,a,c⟩|⟨H,b,a,c⟩|⟨H,b,a,c,d⟩
 .dsimp only at H b a;subst H;subst b;subst a;refine dp func81 ntmps81 results81 ?_;repeat'(first|refine' b7|fail)
  all_goals first|exact⟨0,rfl,rfl⟩|exact bs|exact⟨_,rfl,by exfalso;simp at *;omega⟩
 .dsimp only at H b a;subst H;subst b;subst a;refine dp func81 ntmps81 results81 ?_;repeat'(first|refine' b7|fail)
  all_goals first|exact⟨0,rfl,rfl⟩|exact bs|exact⟨_,rfl,by exfalso;simp at *;omega⟩
 .dsimp only at H b a c;subst H;subst c;obtain⟨_,rfl,p⟩:=jj w Z 1 20 a;refine dp func81 ntmps81 results81 ?_;repeat'(first|refine' b7|refine ab p ?_)
  all_goals first|exact⟨0,rfl,rfl⟩|exact bs|exact⟨_,rfl,by exfalso;simp at *;omega⟩
 .dsimp only at H b a c;subst H;subst c;obtain⟨_,rfl,p⟩:=jj w Z 1 6000 a;refine dp func81 ntmps81 results81 ?_;repeat'(first|refine' b7|refine ab p ?_)
  all_goals first|exact⟨0,rfl,rfl⟩|exact bs|exact⟨_,rfl,by exfalso;simp at *;omega⟩
 .dsimp only at H b a c d;subst H;subst b;obtain⟨_,rfl,p⟩:=jj s Z (-1) (C-1) d;refine dp func81 ntmps81 results81 ?_;repeat'(first|refine' b7|refine ab p ?_)
  all_goals first|exact⟨0,rfl,rfl⟩|exact bs|exact⟨_,rfl,by exfalso;simp at *;omega⟩
structure ShapeOk(n:Net)(d:Xa):Prop where
 len:d.length=n.lines.length
 row:∀i:Nat,i<n.lines.length->((d.getD i []).length:Int)=(n.lines.getD i default).classes
 val:∀i j:Nat,i<n.lines.length->j<(d.getD i []).length-> -1<=(d.getD i []).getD j 0/\(d.getD i []).getD j 0<=400
theorem dA(n:Net)(d:Xa)(h:NetOk n)(e:ShapeOk n d):q0e 52 [n.av,aF d] (.bool true):=by
 have i:=h.len;have m:=e.len;have a:=e.row;have b:=e.val;have hcl:∀j:Nat,j<n.lines.length->(n.lines.getD j default).classes<=6:=λj g=>(h.line _ (by simp[g])).cls.2;refine ee func52 ntmps52 results52 λ_ _ _=>?_;repeat'(first|refine' ak|refine ab (kD n h) ?_)
 all_goals try omega
 refine⟨(aG (ι:={j:Nat//j<=n.lines.length}) [2,20,21] [2] [] ⟨0,χ _⟩ (λj=>n.lines.length-j.1) (λj=>[(22,J j.1)]) (λj=>[]) ?_ ?_).good⟩
 .refine⟨⟨rfl,rfl⟩,?_,?_⟩;all_goals try refine' dw
 .intro j;conv=>whnf
  obtain⟨j,g⟩:=j;repeat(refine gv ?_;conv=>whnf)
  refine aa (λhb=>?_) (λhb=>?_)
  .have H:j<n.lines.length:=by dsimp only at hb;omega
   have o:=a j H;have k:=b j;have p:=hcl j H;conv=>whnf
   repeat'(first|refine' ak|fail)
   all_goals try dsimp only at hb
   all_goals try simp only[β]at hb
   all_goals try first|omega|(dsimp only;omega)|(dsimp only;simp only[β];omega)
   refine⟨(aG (ι:={c:Nat//c<=(d.getD j []).length}) [2,20,21,22,36,37] [2] [] ⟨0,χ _⟩ (λc=>(d.getD j []).length-c.1) (λc=>[(38,J c.1)]) (λc=>[]) ?_ ?_).good⟩
   .refine⟨⟨rfl,rfl⟩,?_,?_⟩;all_goals try refine' dw
   .intro c;conv=>whnf
    obtain⟨c,l⟩:=c;repeat(refine gv ?_;conv=>whnf)
    refine aa (λhb=>?_) (λhb=>?_)
    .have f:c<(d.getD j []).length:=by dsimp only at hb;simp only[β]at hb;omega
     have q:=k c H f;conv=>whnf
     repeat'(first|refine' ak|(refine aH [] ⟨c+1,?_⟩ ⟨⟨rfl,rfl⟩,?_,?_⟩ ?_))
     all_goals try dsimp only at hb
     all_goals try simp only[β]at hb
     all_goals try first|omega|(dsimp only;omega)|(dsimp only;unfold ah;omega)|(dsimp only;simp only[β];omega)
     .all_goals try refine' dw
     .all_goals try refine' dw
    .conv=>whnf
     repeat'(first|refine' ak|(refine aH [] ⟨j+1,?_⟩ ⟨⟨rfl,rfl⟩,?_,?_⟩ ?_))
     all_goals try first|omega|(dsimp only;omega)|(dsimp only;unfold ah;omega)
     .all_goals try refine' dw
     .all_goals try refine' dw
  .conv=>whnf
   repeat'(first|refine' ak|fail)
   exact Θ
theorem bS{l:List Int}{j:Nat}(h:j<l.length):l.drop j=l.getD j 0::l.drop (j+1):=by
 rw[List.drop_eq_getElem_cons h];simp[h]
def bG(x:Int):List Int->Int->Int
 |[],_=>-1
 |y::l,k=>if y=x then k else bG x l (k+1)
theorem nX(n:Net)(i:Nat)(x:Int)(d:i<n.flows.length)(_hl:n.flows.length<=1000)(c:(n.flows.getD i default).route.length<=1000):q0e 139 [n.av,J i,J x] (J (bG x (n.flows.getD i default).route 0)):=by
 obtain⟨r,b⟩:∃r,r=(n.flows.getD i default).route:=⟨_,rfl⟩;rw[<-b]at c⊢;refine' db func139 ntmps139 results139
 all_goals try omega
 refine⟨(aG (ι:={j:Nat//j<=r.length/\bG x (r.drop j) j=bG x r 0}) [1,2,3] [3] [] ⟨0,χ _,rfl⟩ (λj=>r.length-j.1) (λj=>[(7,J j.1)]) (λj=>[]) ?_ ?_).good⟩
 .refine⟨⟨rfl,rfl⟩,?_,?_⟩;all_goals try refine' dw
 .intro j;conv=>whnf
  obtain⟨j,f,H⟩:=j;have a:j<r.length->(if r.getD j 0=x then(j:Int)else bG x (r.drop (j+1)) (j+1))=bG x r 0:=λh=>by
   rw[bS h]at H;exact H
  repeat'(first|refine' ak|(refine aH [] ⟨j+1,?_,?_⟩ ⟨⟨rfl,rfl⟩,?_,?_⟩ ?_))
  all_goals try dsimp only at *
  all_goals try simp only[β,<-b]at *
  all_goals try exact bs
  .have e:=a Z;rw[if_pos hb]at e;rw[<-e];exact Θ
  .have e:=a Z;rw[if_neg hb]at e;exact e
  .all_goals try refine' dw
  .all_goals try refine' dw
  .have e:r.drop j=[]:=List.drop_eq_nil_of_le Z;rw[e]at H;rw[<-H];exact Θ
def rr(d:Xa)(c x:Int):Int:=(d.getD x.toNat []).getD c.toNat 0
def cK(a:Int->Int):List Int->Int->Option Int
 |[],s=>some s
 |x::r,s=>if a x<0 then none else cK a r (s+a x)
def v9(d:Xa)(f:Flow):Option Int:=cK (rr d f.class_) f.route (f.route.length-1)
def Be(o:Option Int):AV:=.tup [J (o.getD 0),.bool o.isSome]
theorem FJ(n:Net)(d:Xa)(h:NetOk n)(l:ShapeOk n d)(i:Nat)(D:i<n.flows.length) :
  q0e 134 [n.av,aF d,J i] (Be (v9 d (n.flows.getD i default))):=by
 obtain⟨f,b⟩:∃f,f=n.flows.getD i default:=⟨_,rfl⟩;have a:FlowOk n.lines f:=by rw[b];exact h.flow _ (by simp[D])
 have C:=h.flen;have F:=h.len;have t:=a.ne;have A:=a.cls;have B:=l.len;obtain⟨r,E⟩:∃r,r=f.route:=⟨_,rfl⟩;obtain⟨c,m⟩:∃c,c=f.class_:=⟨_,rfl⟩;have g:∀j:Nat,j<r.length->(0<=r.getD j 0/\r.getD j 0<d.length)/\(0<=c/\c<((d.getD (r.getD j 0).toNat []).length:Int))/\-1<=rr d c (r.getD j 0)/\rr d c (r.getD j 0)<=400:=λj x=>by
  have y:r.getD j 0∈f.route:=by rw[<-E];simp[x]
  have z:=a.lines _ y;have G:=a.cls2 _ y;have I:=l.row (r.getD j 0).toNat Z;have w:=l.val (r.getD j 0).toNat c.toNat Z (by rw[m];omega);refine⟨⟨z.1,Z⟩,⟨Z,Z⟩,w.1,w.2⟩
 rw[show v9 d (n.flows.getD i default)=cK (rr d c) r (r.length-1) by rw[v9,<-b,<-m,<-E]];rw[<-E]at t;refine ee func134 ntmps134 results134 λ_ _ _=>?_;repeat'(first|refine' ak|refine ab (dA n d h l) ?_)
 all_goals try omega
 .refine⟨?_⟩;refine aT [1,8] [] [] [(37,c4 r),(38,J r.length),(9,J (r.length-1)),(39,J 0)] [(8,some (.box f.cells))] ⟨⟨rfl,rfl⟩,?_,?_⟩ ?_
  .rw[E,b];all_goals try refine' dw
  .rw[E,b];all_goals try refine' dw
  conv=>whnf
  refine(aG (ι:={p:Nat×Int//p.1<=r.length/\0<=p.2/\p.2<=3+400*p.1/\cK (rr d c) (r.drop p.1) p.2=cK (rr d c) r (r.length-1)}) [1,8,37,38] [8] [] ⟨(0,(r.length:Int)-1),χ _,κ,κ,rfl⟩ (λj=>r.length-j.1.1) (λj=>[(9,J j.1.2),(39,J j.1.1)]) (λj=>[]) ?_ ?_).good
  .refine⟨⟨rfl,rfl⟩,?_,?_⟩;all_goals try refine' dw
  .intro j;conv=>whnf
   obtain⟨⟨j,s⟩,x,u,v,H⟩:=j;repeat(refine gv ?_;conv=>whnf)
   refine aa (λhb=>?_) (λhb=>?_)
   .have k:j<r.length:=by dsimp only at hb;omega
    have K:=g j k;have q:=bS k;dsimp only at H u v;rw[q,cK]at H;have o:(d.getD (r.getD j 0).toNat []).getD f.class_.toNat 0=rr d c (r.getD j 0):=by rw[m];rfl
    conv=>whnf
    repeat'(first|refine' ak|(refine aH [] ⟨(j+1,s+rr d c (r.getD j 0)),?_,?_,?_,?_⟩ ⟨⟨rfl,rfl⟩,?_,?_⟩ ?_))
    all_goals dsimp only at *
    all_goals simp only[β,o]at *
    all_goals try exact bs
    all_goals try(rw[if_neg hb]at H;exact H)
    all_goals try(rw[if_pos hb]at H;rw[<-H];exact Θ)
    .all_goals try refine' dw
    .all_goals try refine' dw
   .conv=>whnf
    repeat'(first|refine' ak|fail)
    have e:r.drop j=[]:=List.drop_eq_nil_of_le (by dsimp only at hb;omega);dsimp only at H;rw[e,cK]at H;dsimp only;rw[<-H];exact Θ
 .rw[β,<-b,<-E];unfold ah;omega
theorem iH(i:Nat):nF (lv i):=rR i
theorem ly(i:Nat):nF (dz i):=rT i
theorem ku:∀n,∀x∈bK n,nF x
 |0,_,h=>by cases h
 |n+1,x,h=>by
  rcases List.mem_append.1 h with h|h
  .exact ku n x h
  .rw[List.mem_singleton.1 h];exact iH n
theorem oY{n:Nat}(h:n<=4):(bK n).Nodup:=by
 rcases(Z:n=0\/n=1\/n=2\/n=3\/n=4)with rfl|rfl|rfl|rfl|rfl<;>decide
def jk:Nat->List ByteArray
 |0=>[]
 |n+1=>jk n++[dz n]
theorem oZ{n:Nat}(h:n<=5):(jk n).Nodup:=by
 rcases(Z:n=0\/n=1\/n=2\/n=3\/n=4\/n=5)with rfl|rfl|rfl|rfl|rfl|rfl<;>decide
theorem nY{P:Int->Prop}{l:List Int}{f:Rd->Int×Rd}(a:∀x∈l,P x)(H:∀s,P (f s).1):∀(n:Nat) (s:Rd),∀x∈(Rd.many l f n s).1,P x
 |0,_,x,h=>a x h
 |n+1,s,x,h=>by
  rcases List.mem_append.1 h with h|h
  .exact nY a H n s x h
  .rw[List.mem_singleton.1 h];exact H _
theorem C9:∀(n:Nat),∀x∈E3 n,0<=x/\x<n
 |0,_,h=>by cases h
 |n+1,x,h=>by
  rcases List.mem_append.1 h with h|h
  .have:=C9 n x h;omega
  .rw[List.mem_singleton.1 h];omega
theorem vA(s:Rd){cap c:Int}(H:1<=cap/\cap<=4000)(h:1<=c/\c<=6):LineOk (s.port2 cap c).1/\(s.port2 cap c).1.classes=c:=by
 have b:=mod_lt (x:=(s.n 4).2.raw.1) (n:=3) Z;unfold Rd.port2;dsimp only;split
 .exact⟨⟨H,h,.inl ⟨.inr rfl,rfl,rfl⟩⟩,rfl⟩
 .split
  .refine⟨⟨H,h,.inr (.inl ⟨rfl,?_,?_,rfl⟩)⟩,rfl⟩
   .show c=((Rd.many [] _ _ _).1.length:Int);rw[Rd.many_len];show c=((0+c.toNat:Nat):Int);omega
   .refine nY (P:=λx=>1<=x/\x<=20) (l:=[]) (λ_ h=>by cases h) (λs=>?_) _ _;have:1<=(s.range 1 3).1/\(s.range 1 3).1<=3:=cj rfl Z;omega
  .split
   .refine⟨⟨H,h,.inr (.inr (.inl ⟨rfl,?_,?_,rfl⟩))⟩,rfl⟩
    .show c=((Rd.many [] _ _ _).1.length:Int);rw[Rd.many_len];show c=((0+c.toNat:Nat):Int);omega
    .refine nY (P:=λx=>1<=x/\x<=6000) (l:=[]) (λ_ h=>by cases h) (λs=>?_) _ _;have:8<=(s.range 8 20).1/\(s.range 8 20).1<=20:=cj rfl Z;omega
   .refine⟨⟨H,h,.inr (.inr (.inr ⟨rfl,rfl,?_,?_,?_⟩))⟩,rfl⟩
    .show 1<=(Rd.many _ _ _ _).1.length;rw[Rd.many_len,lr];omega
    .show(Rd.many _ _ _ _).1.length<=40;rw[Rd.many_len,lr];show _+(KF (s.n 4).2.raw.1 3).toNat<=40;omega
    .refine nY (P:=λx=>-1<=x/\x<=c-1) (λx a=>?_) (λs=>?_) _ _
     .have:=C9 _ x a;omega
     .exact cj rfl Z
theorem FK(s:Rd){c:Int}(h:1<=c/\c<=6):LineOk (s.port c).1/\(s.port c).1.classes=c:=by
 have a:4<=(s.range 4 24).1/\(s.range 4 24).1<=24:=cj rfl Z;have H:1<=(s.range 4 24).1/\(s.range 4 24).1<=4000:=Z;unfold Rd.port;split
 .split
  .exact⟨⟨H,h,.inl ⟨.inl rfl,rfl,rfl⟩⟩,rfl⟩
  .exact vA _ H h
 .exact vA _ H h
theorem pi{k:Int}(h:1<=k/\k<=6):∀(n:Nat) (s:Rd),∀l∈(Rd.lines k n s).1,LineOk l/\l.classes=k
 |0,_,_,h=>by cases h
 |n+1,s,l,hl=>by
  rcases List.mem_append.1 hl with H|H
  .exact pi h n s l H
  .rw[List.mem_singleton.1 H];exact FK _ h
def lz(n:Int)(l:List Int):Bool:=decide (1<=l.length/\l.length<=4)&&l.all (λx=>decide (0<=x/\x<n))&&decide l.Nodup
theorem rk{n:Int}{l:List Int}(h:lz n l=true):(1<=l.length/\l.length<=4)/\(∀x∈l,0<=x/\x<n)/\l.Nodup:=by
 simp only[lz,Bool.and_eq_true,decide_eq_true_eq,List.all_eq_true]at h;exact⟨h.1.1,h.1.2,h.2⟩
def zk(n:Nat):Bool:=(List.range n).all λw=>[1,(n:Int)-1].all λt=>(List.range (min 3 n)).all λh=>lz n (iF (hops w t n (h+1)).1)
theorem CA{n:Nat}(h:1<=n)(H:n<=4):zk n=true:=by
 rcases(Z:n=1\/n=2\/n=3\/n=4)with rfl|rfl|rfl|rfl<;>kernel_rfl
theorem FL{n:Nat}(b:1<=n)(c:n<=4){w t h:Int}(f:0<=w/\w<n)(d:t∈[1,(n:Int)-1])(e:1<=h/\h<=min 3 (n:Int)):lz n (iF (hops w t n h.toNat).1)=true:=by
 have H:=CA b c;simp only[zk,List.all_eq_true]at H;have a:=H w.toNat (List.mem_range.2 Z) t d (h.toNat-1) (List.mem_range.2 Z);rw[(Z:((w.toNat:Nat):Int)=w),(Z:h.toNat-1+1=h.toNat)]at a;exact a
theorem zn{b:Int}(h:b<=1073741824):∀n:Nat,fo b (List.replicate n b)=some b
 |0=>rfl
 |n+1=>by
  rw[List.replicate_succ,fo,if_neg Z];exact zn h n
theorem zo{b:Int}{n i:Nat}(h:i<n):(List.replicate n b).getD i 0=b:=by
 simp[h]
structure ConOk(c:Curve):Prop where
 valid:c.valid=true
 len:1<=c.vals.length/\c.vals.length<=400
 zero:c.vals.getD 0 0=0
 fin:c.vals.getD (c.vals.length-1) 0≠cx
theorem Nk{a b c:Int}(h:0<=a/\a<=1000)(hb:1<=b/\b<=100)(H:0<=c/\c<=1000):ConOk ⟨0::List.replicate b.toNat a,b,c⟩:=by
 obtain⟨p,rfl⟩:∃p:Nat,b=p:=⟨b.toNat,Z⟩;have e:((0:Int)::List.replicate p a).length=p+1:=by simp
 obtain⟨q,rfl⟩:∃q,p=q+1:=⟨p-1,Z⟩;have E:((0:Int)::List.replicate (q+1) a).getD (q+1) 0=a:=zo (b:=a) (n:=q+1) (i:=q) Z;have d:((0:Int)::List.replicate (q+1) a).getD 1 0=a:=zo (b:=a) (n:=q+1) (i:=0) Z;refine⟨?_,?_,rfl,?_⟩
 .have f:fo 0 ((0:Int)::List.replicate (q+1) a)=some a:=by
   rw[fo,if_neg Z,List.replicate_succ,fo,if_neg Z];exact zn Z q
  unfold Curve.valid;dsimp only;rw[β,e,f,if_neg Z];dsimp only;rw[if_neg (show¬a=cx by unfold cx;omega),(Z:(((q+1+1:Nat):Int)-((q+1:Nat):Int)).toNat=1),d];exact decide_eq_true Z
 .dsimp only;rw[β,e];omega
 .dsimp only;rw[β,e,show q+1+1-1=q+1 from rfl,E];unfold cx;omega
theorem vB(s:Rd):ConOk s.contract.1:=by
 have H:4<=(s.range 4 16).1/\(s.range 4 16).1<=16:=cj rfl Z;have h:=nW (l:=[1,2,3,4,6,12]) ν (s.range 4 16).2;have a:0<=(((s.range 4 16).2.pick [1,2,3,4,6,12]).2.n 4).1/\(((s.range 4 16).2.pick [1,2,3,4,6,12]).2.n 4).1<4:=KE rfl Z;simp only[List.mem_cons,List.not_mem_nil,or_false]at h;exact Nk Z Z Z
theorem FM(s:Rd){L:List Line}{n:Nat}(Q:L.length=n)(F:1<=n)(G:n<=4)(N:ByteArray){k:Int}(P:1<=k)(hcl:∀i:Nat,i<n->(L.getD i default).classes=k):FlowOk L (s.flow n N k).1/\(s.flow n N k).1.name=N:=by
 obtain⟨c,S,E⟩:∃c S,s.n k=(c,S):=⟨_,_,rfl⟩;obtain⟨q,f,r⟩:∃k f,S.contract=(k,f):=⟨_,_,rfl⟩;obtain⟨a,g,u⟩:∃a g,f.range 1 3=(a,g):=⟨_,_,rfl⟩;obtain⟨b,j,v⟩:∃b j,g.n 5=(b,j):=⟨_,_,rfl⟩;obtain⟨w,e,y⟩:∃w e,j.n n=(w,e):=⟨_,_,rfl⟩;obtain⟨t,o,z⟩:∃t o,e.pick [1,(n:Int)-1]=(t,o):=⟨_,_,rfl⟩;obtain⟨d,p,A⟩:∃d p,o.range 1 (min 3 (n:Int))=(d,p):=⟨_,_,rfl⟩;have B:=KE E Z;have m:=vB S;have I:=cj u Z;have R:=KE v Z;have K:=KE y Z;have C:=nW (l:=[1,(n:Int)-1]) ν e;have O:=cj A Z;rw[r]at m;rw[z]at C;have h:=rk (FL F G K C O);have D:s.flow n N k=(⟨N,iF (hops w t n d.toNat).1,c,a,a+b,q⟩,p):=by simp only[Rd.flow,E,r,u,v,y,z,A]
 rw[D];refine⟨⟨h.1,λx H=>?_,h.2.2,B.1,λx H=>?_,⟨?_,?_,?_⟩,m.valid,m.len,m.zero,m.fin⟩,rfl⟩
 .have:=h.2.1 x H;omega
 .have:=h.2.1 x H;rw[hcl x.toNat Z];exact B.2
 .exact I.1
 .dsimp only;omega
 .dsimp only;omega
theorem pk{l:List Line}{n:Nat}(e:l.length=n)(b:1<=n)(c:n<=4){k:Int}(d:1<=k)(hcl:∀i:Nat,i<n->(l.getD i default).classes=k):∀(m:Nat) (s:Rd),
  (∀f∈(Rd.flows n k m s).1,FlowOk l f/\nF f.name)/\(Rd.flows n k m s).1.map Flow.name=jk m
 |0,_=>⟨λ_ h=>(by cases h),rfl⟩
 |m+1,s=>by
  have I:=pk e b c d hcl m s;have a:=FM (Rd.flows n k m s).2 e b c (dz m) d hcl;refine⟨λf g=>?_,?_⟩
  .rcases List.mem_append.1 g with H|H
   .exact I.1 f H
   .rw[List.mem_singleton.1 H];refine⟨a.1,?_⟩;rw[a.2];exact ly m
  .show List.map Flow.name (_++[_])=jk m++[dz m];rw[List.map_append,I.2,List.map_singleton,a.2]
theorem M4(s:Rd)(L F:Int)(t:1<=L)(u:L<=4)(v:0<=F)(w:F<=5):NetOk (s.net L F).1:=by
 obtain⟨k,g,E⟩:∃k g,s.range 1 2=(k,g):=⟨_,_,rfl⟩;obtain⟨c,a,m⟩:∃c a,g.range 1 L=(c,a):=⟨_,_,rfl⟩;obtain⟨l,j,n⟩:∃l j,Rd.lines k c.toNat a=(l,j):=⟨_,_,rfl⟩;obtain⟨e,S,o⟩:∃e S,j.range 0 F=(e,S):=⟨_,_,rfl⟩;have z:=cj E Z;have A:=cj m Z;have B:=cj o Z;have p:s.net L F=(⟨bK c.toNat,l,(Rd.flows c.toNat k e.toNat S).1⟩,(Rd.flows c.toNat k e.toNat S).2):=by
  simp only[Rd.net,E,m,n,o]
 rw[p];have b:=pi (k:=k) Z c.toNat a;have H:=Rd.lines_len k a c.toNat;have y:=Rd.flows_len c.toNat k S e.toNat;rw[n]at b H;dsimp only at b H;have hcl:∀i:Nat,i<c.toNat->(l.getD i default).classes=k:=λi q=>(b _ (by simp[<-H,q])).2;have h:=pk H.symm Z Z Z hcl e.toNat S;refine⟨?_,?_,?_,?_,?_,?_,?_,?_,?_⟩
 .dsimp only;omega
 .dsimp only;omega
 .show(bK _).length=l.length;rw[<-iG];exact H
 .exact ku _
 .exact oY Z
 .exactλx r=>(b x r).1
 .exactλf d=>(h.1 f d).2
 .show(List.map Flow.name _).Nodup;rw[h.2];exact oZ Z
 .exactλf d=>(h.1 f d).1
theorem vC{x:Int}:∀{l:List Int} {k:Int},0<=k->(0<=bG x l k↔x∈l)
 |[],k,_=>by simp[bG]
 |y::l,k,h=>by
  unfold bG;split
  .rename_i e;simp[e,h]
  .rename_i e;rw[vC (l:=l) (Z:0<=k+1)];simp only[List.mem_cons];constructor
   .exactλh=>.inr h
   .rintro(h|h)
    .exact absurd h.symm e
    .exact h
theorem jL{P:Program}{f:FuncId}{v:List AV}{o:Xd}{k:List Nat->AV->Xb->Prop}{r:AV}{id:Nat}{b:LObj}(h:CallSpec P f v [] r [(id,b)])(a:o id=none)(H:k [id] r [(id,some b)]):vCall P f v o k :=
 ⟨r,[],[(id,b)],h,trivial,⟨a,trivial⟩,H⟩
theorem Rd.net_ok{s:Rd}(h:s.ok)(lines flows:Int):(s.net lines flows).2.ok:=by
 unfold Rd.net;exact Rd.flows_ok _ _ (Rd.range_ok _ _ (Rd.lines_ok _ (Rd.range_ok _ _ (Rd.range_ok _ _ h)) _)) _
theorem zp{b n:Nat}{g:Nat->List AV}(h:n<=1099511627776)(H:∀q,q<n->fU (g q)=true):tq b 0 n g:=by
 exact⟨Z,H⟩
end Go.Nc