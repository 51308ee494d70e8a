/- Parts. -/
import Derived.Test.YtbdkgpcdkalfdaaGreatNcKA
namespace Go.Nc
open Go.Proofs.Tryz
open Go.Proofs
set_option maxHeartbeats 8000000
theorem qF:q0d 211 [J 1] (.tup [.iface 224 (.agg []),.bool true]):=by
 refine opG func211 ntmps211 results211 λ_ _ _=>?_;repeat'(first|refine' ak|(refine VLook.mk ⟨none,rfl,?_⟩;conv=>whnf)|(refine VLook.mk ⟨some (_,_),rfl,?_⟩;conv=>whnf))
 all_goals exact Ψ
theorem qG:q0d 211 [J 2] (.tup [.iface 225 (.agg []),.bool true]):=by
 refine opG func211 ntmps211 results211 λ_ _ _=>?_;repeat'(first|refine' ak|(refine VLook.mk ⟨none,rfl,?_⟩;conv=>whnf)|(refine VLook.mk ⟨some (_,_),rfl,?_⟩;conv=>whnf))
 all_goals exact Ψ
theorem qH:q0d 211 [J 3] (.tup [.iface 226 (.agg []),.bool true]):=by
 refine opG func211 ntmps211 results211 λ_ _ _=>?_;repeat'(first|refine' ak|(refine VLook.mk ⟨none,rfl,?_⟩;conv=>whnf)|(refine VLook.mk ⟨some (_,_),rfl,?_⟩;conv=>whnf))
 all_goals exact Ψ
theorem qI:q0d 211 [J 4] (.tup [.iface 227 (.agg []),.bool true]):=by
 refine opG func211 ntmps211 results211 λ_ _ _=>?_;repeat'(first|refine' ak|(refine VLook.mk ⟨none,rfl,?_⟩;conv=>whnf)|(refine VLook.mk ⟨some (_,_),rfl,?_⟩;conv=>whnf))
 all_goals exact Ψ
theorem qJ:q0d 211 [J 5] (.tup [.iface 228 (.agg []),.bool true]):=by
 refine opG func211 ntmps211 results211 λ_ _ _=>?_;repeat'(first|refine' ak|(refine VLook.mk ⟨none,rfl,?_⟩;conv=>whnf)|(refine VLook.mk ⟨some (_,_),rfl,?_⟩;conv=>whnf))
 all_goals exact Ψ
@[irreducible] noncomputable def nmOf(k:Nat):String:=match prog.types[224]? with
 |some t=>(match t.methods[k]? with |some m=>m.name|none=>default)
 |none=>default
theorem rX(w:World):(method (prog.types.size+Made.depth) 224 (.agg #[]) (nmOf 0)).run prog w=.ok (298,.agg #[]) w:=by kernel_rfl
theorem rY(w:World):(method (prog.types.size+Made.depth) 225 (.agg #[]) (nmOf 0)).run prog w=.ok (302,.agg #[]) w:=by kernel_rfl
theorem rZ(w:World):(method (prog.types.size+Made.depth) 226 (.agg #[]) (nmOf 0)).run prog w=.ok (312,.agg #[]) w:=by kernel_rfl
theorem sa(w:World):(method (prog.types.size+Made.depth) 227 (.agg #[]) (nmOf 0)).run prog w=.ok (327,.agg #[]) w:=by kernel_rfl
theorem sb(w:World):(method (prog.types.size+Made.depth) 228 (.agg #[]) (nmOf 0)).run prog w=.ok (337,.agg #[]) w:=by kernel_rfl
theorem si(w:World):(method (prog.types.size+Made.depth) 224 (.agg #[]) (nmOf 1)).run prog w=.ok (299,.agg #[]) w:=by kernel_rfl
theorem sj(w:World):(method (prog.types.size+Made.depth) 225 (.agg #[]) (nmOf 1)).run prog w=.ok (303,.agg #[]) w:=by kernel_rfl
theorem sk(w:World):(method (prog.types.size+Made.depth) 226 (.agg #[]) (nmOf 1)).run prog w=.ok (313,.agg #[]) w:=by kernel_rfl
theorem sm(w:World):(method (prog.types.size+Made.depth) 227 (.agg #[]) (nmOf 1)).run prog w=.ok (328,.agg #[]) w:=by kernel_rfl
theorem sn(w:World):(method (prog.types.size+Made.depth) 228 (.agg #[]) (nmOf 1)).run prog w=.ok (338,.agg #[]) w:=by kernel_rfl
def KindOk(l:Line):Prop:=((l.kind=1\/l.kind=2)/\l.weights=[]/\l.slots=[])\/(l.kind=3/\l.classes=l.weights.length/\(∀x∈l.weights,1<=x/\x<=20)/\l.slots=[])\/
 (l.kind=4/\l.classes=l.weights.length/\(∀x∈l.weights,1<=x/\x<=6000)/\l.slots=[])\/(l.kind=5/\l.weights=[]/\1<=l.slots.length/\l.slots.length<=40/\∀x∈l.slots,-1<=x/\x<=l.classes-1)
structure LineOk(l:Line):Prop where
 cap:1<=l.cap/\l.cap<=4000
 cls:1<=l.classes/\l.classes<=6
 kind:KindOk l
structure FlowOk(ls:List Line)(f:Flow):Prop where
 ne:1<=f.route.length/\f.route.length<=4
 lines:∀x∈f.route,0<=x/\x<ls.length
 nodup:f.route.Nodup
 cls:0<=f.class_
 cls2:∀x∈f.route,f.class_<(ls.getD x.toNat default).classes
 sizes:1<=f.least/\f.least<=f.most/\f.most<=1500
 valid:f.con.valid=true
 len:1<=f.con.vals.length/\f.con.vals.length<=400
 zero:f.con.vals.getD 0 0=0
 fin:f.con.vals.getD (f.con.vals.length-1) 0≠inf
theorem BA(c:Curve)(hl:1<=c.vals.length/\c.vals.length<=400)(hf:c.vals.getD (c.vals.length-1) 0≠inf):q0d 182 [c.av] (.bool true):=by
 have e:((c.vals.length:Int)-1).toNat=c.vals.length-1:=ω;refine opG func182 ntmps182 results182 λ_ _ _=>?_;repeat'(first|refine' ak|fail)
 all_goals first|exact ariA|skip
 refine Θ ?_;show AV.bool (!decide (c.vals.getD ((c.vals.length:Int)-1).toNat 0=4611686018427387904))=_;rw[e,decide_eq_false (show¬c.vals.getD (c.vals.length-1) 0=4611686018427387904 from hf)];rfl
theorem wA(c:Curve)(hv:c.valid=true)(hl:1<=c.vals.length/\c.vals.length<=400)(hf:c.vals.getD (c.vals.length-1) 0≠inf):q0d 212 [c.av] (.bool true):=by
 have h:=dd c;rw[hv]at h;refine opG func212 ntmps212 results212 λ_ _ _=>?_;repeat'(first|refine' ak|refine ab h ?_|refine ab (BA c hl hf) ?_)
 all_goals try dsimp only at hb
 all_goals try simp only[χ]at hb
 all_goals first|exact Ψ|exactλ_ _=>rfl|omega|(dsimp only;omega)|(dsimp only;unfold aj;omega)|((repeat'(first|exact True.intro|refine And.intro ?_ ?_))<;>first|rfl|exactλ_ _=>rfl|(refine Ξ ?_;dsimp only;omega)|((conv=>whnf)<;>first|exact Ψ|exact q0a|(refine Ξ ?_;dsimp only;omega)))
theorem uv{x:Int}:∀{l:List Int} (i:Nat),x∉l->gD (J x) (l.map λy=>(J y,.bool true)) i=some none
 |[],_,_=>rfl
 |y::l,i,h=>by
  simp only[List.mem_cons,not_or]at h;simp only[List.map_cons,gD,if_neg h.1];exact uv (i+1) h.2
theorem yq{ids:List Nat}{l:List Int}:∀k v,(k,v)∈(l.map λy=>((J y:AV),(.bool true:AV)))->nmV ids k=true/\nmV ids v=true:=λk v hm=>by
 obtain⟨x,_,he⟩:=List.mem_map.1 hm;cases he;exact⟨rfl,rfl⟩
def E9(l:List Int):List (AV×AV):=l.map λy=>(J y,.bool true)
theorem jF{l:List Int}{j:Nat}(h:j<l.length):l.take (j+1)=l.take j++[l.getD j 0]:=by
 rw[List.take_add_one];simp[h]
def qK(s:ByteArray):Prop:=WordP s
def gV(l:List ByteArray):List (AV×AV):=l.map λy=>(.str y,.bool true)
theorem ca{ids:List Nat}{l:List ByteArray}:∀k v,(k,v)∈(l.map λy=>((.str y:AV),(.bool true:AV)))->nmV ids k=true/\nmV ids v=true:=λk v hm=>by
 obtain⟨x,_,he⟩:=List.mem_map.1 hm;cases he;exact⟨rfl,rfl⟩
theorem lH{x:ByteArray}:∀{l:List ByteArray} (i:Nat),x∉l->gD (.str x) (l.map λy=>(.str y,.bool true)) i=some none
 |[],_,_=>rfl
 |y::l,i,h=>by
  simp only[List.mem_cons,not_or]at h;simp only[List.map_cons,gD,if_neg h.1];exact lH (i+1) h.2
structure NetOk(n:Net):Prop where
 len:1<=n.lines.length/\n.lines.length<=8
 flen:n.flows.length<=10
 nlen:n.names.length=n.lines.length
 word:∀x∈n.names,qK x
 nodup:n.names.Nodup
 line:∀l∈n.lines,LineOk l
 fword:∀f∈n.flows,qK f.name
 fnodup:(n.flows.map Flow.name).Nodup
 flow:∀f∈n.flows,FlowOk n.lines f
theorem takeS{l:List ByteArray}{j:Nat}(h:j<l.length)(d:ByteArray):l.take (j+1)=l.take j++[l.getD j d]:=by
 rw[List.take_add_one];simp[h]
def gG(l:List Int)(lo hi:Int):Prop:=∀x∈l,lo<=x/\x<=hi
open Classical in
noncomputable def chkE(r u:Prop):Int:=if r then if u then 0 else 6 else 2
theorem b5{r r' u u':Prop}(h1:r↔r')(h2:u↔u'):chkE r u=chkE r' u':=by rw[propext h1,propext h2]
theorem mE{r u:Prop}(h:¬r):chkE r u=2:=if_neg h
theorem iS{r u:Prop}(h:r)(g:u):chkE r u=0:=by unfold chkE;rw[if_pos h,if_pos g]
theorem nR{r u:Prop}(h:r)(g:¬u):chkE r u=6:=by unfold chkE;rw[if_pos h,if_neg g]
theorem chkE_z{r u:Prop}(h:chkE r u=0):r/\u:=by
 by_cases a:r
 ·by_cases b:u
  ·exact⟨a,b⟩
  ·rw[nR a b]at h;cases h
 ·rw[mE a]at h;cases h
theorem Af(n lo hi:Int):∃b:Bool,(b=false↔lo<=n/\n<=hi)/\q0d 318 [J n,.ibox [J lo] 0,.ibox [J hi] 0] (.bool b):=by
 by_cases h:lo<=n/\n<=hi
 ·refine⟨false,⟨λ_=>h,λ_=>rfl⟩,?_⟩;refine opG func318 ntmps318 results318 λ_ _ _=>?_;repeat'(first|refine' ak|fail)
  all_goals first|omega|exact Ψ|exact Θ (by rw[decide_eq_false ω];rfl)
 ·refine⟨true,⟨λe=>(by cases e),λg=>absurd g h⟩,?_⟩;refine opG func318 ntmps318 results318 λ_ _ _=>?_;repeat'(first|refine' ak|fail)
  all_goals first|omega|exact Ψ|exact Θ (by rw[decide_eq_true ω];rfl)
theorem nS{l:List Int}{lo hi:Int}{j:Nat}(hj:¬(j:Int)<l.length)(h:∀i,i<j->lo<=l.getD i 0/\l.getD i 0<=hi):gG l lo hi:=λx hx=>by
 obtain⟨i,hi,e⟩:=List.mem_iff_getElem.1 hx;have:=h i ω;rw[ψ,β hi]at this;rw[<-e];exact this
theorem ixf_ex(l:List Int)(lo hi:Int)(hl:l.length<=2000):∃r:Int,(r<0↔gG l lo hi)/\q0d 325 [ints l,.fn 318 [.ibox [J lo] 0,.ibox [J hi] 0]] (J r):=by
 refine opE func325 ntmps325 results325 ?_;repeat'(first|refine' ah|fail)
 all_goals try exact ariA
 refine ag (ι:={j:Nat//j<=l.length/\∀i,i<j->lo<=l.getD i 0/\l.getD i 0<=hi}) [0,1,7] [] [] ⟨0,π _,ν⟩ (λ⟨j,_⟩=>l.length-j) (λ⟨j,_⟩=>[(8,J j)]) (λ_=>[]) ?_ ?_
 ·exact⟨⟨rfl,rfl⟩,sq1,sq1⟩
 ·rintro⟨j,hj,hI⟩;conv=>whnf
  by_cases hjl:(j:Int)<l.length
  ·obtain⟨b,hb0,p⟩:=Af (l.getD (j:Int).toNat 0) lo hi;rcases b with _|_
   ·skip;repeat'(first|(refine Λ hjl λhb=>?_;conv=>whnf)|(exact aN [] ⟨j+1,ω,λi hi=>(ζ i j).elim (hI i) λh9=>by have e9:i=j:=ω;subst e9;exact hb0.1 rfl⟩)|refine' ah|refine ab p ?_)
    all_goals try exact ariA
   ·skip;repeat'(first|(refine Λ hjl λhb=>?_;conv=>whnf)|refine' ah|refine ab p ?_)
    all_goals try exact ariA
    exact ae ⟨j,rfl,λh=>ω,λh=>by have:=hb0.2 (h _ (a8 (i:=(j:Int).toNat) ω));cases this⟩
  ·skip;repeat'(first|(refine Υ hjl λhb=>?_;conv=>whnf)|refine' ah|fail)
   all_goals try exact ariA
   exact ae ⟨-1,rfl,λ_=>nS hjl hI,λ_=>ω⟩
theorem cf_ex(l:List Int)(lo hi:Int)(hl:l.length<=2000):∃b:Bool,(b=false↔gG l lo hi)/\q0d 317 [ints l,.fn 318 [.ibox [J lo] 0,.ibox [J hi] 0]] (.bool b):=by
 obtain⟨r,hr,p⟩:=ixf_ex l lo hi hl;refine⟨decide (0<=r),⟨λe=>hr.1 (by have:=of_decide_eq_false e;omega),λh=>decide_eq_false (by have:=hr.2 h;omega)⟩,?_⟩;refine opG func317 ntmps317 results317 λ_ _ _=>?_;repeat'(first|refine' ak|refine ab p ?_)
 all_goals exact Ψ
theorem nT(l:List Int)(lo hi:Int)(hl:l.length<=2000):∃b:Bool,(b=true↔gG l lo hi)/\q0d 315 [ints l,J lo,J hi] (.bool b):=by
 obtain⟨b,hb,p⟩:=cf_ex l lo hi hl;refine⟨!b,by rw[<-hb];cases b<;>simp,?_⟩;refine opG func315 ntmps315 results315 λ_ _ _=>?_;refine gv ?_;conv=>whnf
 refine jz 4 rfl rfl rfl ?_ ?_ ?_;rotate_left;rotate_left;refine jz 5 rfl rfl rfl ?_ ?_ ?_;rotate_left;rotate_left;refine aL [] [] [] [(0,ints l),(4,.ibox [J lo] 0),(5,.ibox [J hi] 0)] [] ⟨⟨rfl,rfl⟩,?_,?_⟩ ?_;rotate_left;rotate_left;conv=>whnf
 repeat'(first|refine' ak|refine ab p ?_)
 all_goals try refine' frzZ
 all_goals try dsimp only at hb
 all_goals try simp only[χ]at hb
 all_goals first|exact Ψ|exactλ_ _=>rfl|omega|(dsimp only;omega)|(dsimp only;unfold aj;omega)|((repeat'(first|exact True.intro|refine And.intro ?_ ?_))<;>first|rfl|exactλ_ _=>rfl|(refine Ξ ?_;dsimp only;omega)|((conv=>whnf)<;>first|exact Ψ|exact q0a|(refine Ξ ?_;dsimp only;omega)))
theorem fv(r:Bool)(L:List (List Int))(hm:L.length<=10):∃e:Int,e=chkE (r=true) (∀l∈L,l=[])/\q0d 301 [.bool r,.isl L.length 1 λi=>[ints (L.getD i [])]] (J e):=by
 cases r with
 |false=>
  refine⟨2,(mE φ).symm,?_⟩;refine opG func301 ntmps301 results301 λ_ _ _=>?_;repeat'(first|refine' ak|fail)
  all_goals exact Ψ
 |true=>
  refine opE func301 ntmps301 results301 ?_;repeat'(first|refine' ah|fail)
  all_goals try exact ariA
  refine ag (ι:={j:Nat//j<=L.length/\∀i,i<j->L.getD i []=[]}) [9,10] [] [] ⟨0,π _,ν⟩ (λ⟨j,_⟩=>L.length-j) (λ⟨j,_⟩=>[(11,J j)]) (λ_=>[]) ?_ ?_
  ·exact⟨⟨rfl,rfl⟩,sq1,sq1⟩
  ·rintro⟨j,hj,hI⟩;conv=>whnf
   by_cases hjl:(j:Int)<L.length
   ·by_cases hx:0<((L.getD (j:Int).toNat []).length:Int)
    ·have hn:L.getD j []∈L:=by simp[(ω:j<L.length)]
     repeat'(first|(refine Λ hx λhb=>?_;conv=>whnf)|(refine Λ hjl λhb=>?_;conv=>whnf)|refine' ah|fail)
     all_goals try exact ariA
     exact ae ⟨6,rfl,(nR rfl λh=>by have h1:L.getD (j:Int).toNat []=[]:=h _ hn;rw[h1]at hx;cases hx).symm⟩
    ·have e0:L.getD j []=[]:=List.eq_nil_of_length_eq_zero (by have:(L.getD (j:Int).toNat [])=L.getD j []:=rfl;rw[this]at hx;omega);repeat'(first|(refine Υ hx λhb=>?_;conv=>whnf)|(refine Λ hjl λhb=>?_;conv=>whnf)|(exact aN [] ⟨j+1,ω,λi hi=>(ζ i j).elim (hI i) λh9=>by have e9:i=j:=ω;subst e9;exact e0⟩)|refine' ah|fail)
     all_goals try exact ariA
   ·skip;repeat'(first|(refine Υ hjl λhb=>?_;conv=>whnf)|refine' ah|fail)
    all_goals try exact ariA
    refine ae ⟨0,rfl,(iS rfl λx hx=>?_).symm⟩;obtain⟨i,hi,e⟩:=List.mem_iff_getElem.1 hx;have:=hI i ω;rw[ψ,β hi]at this;rw[<-e];exact this
def lI(l:Line):Prop:=(l.kind=3->(l.weights.length:Int)=l.classes/\gG l.weights 1 20)/\(l.kind=4->(l.weights.length:Int)=l.classes/\gG l.weights 1 6000)/\(l.kind=5->(1<=(l.slots.length:Int)/\(l.slots.length:Int)<=40)/\gG l.slots (-1) (l.classes-1))
def dA(l:Line):Prop:=(l.kind≠3->l.kind≠4->l.weights=[])/\(l.kind≠5->l.slots=[])
open Classical in
noncomputable def kz(l:Line):Int:=if 1<=l.kind/\l.kind<=5 then if(1<=l.cap/\l.cap<=4000)/\1<=l.classes/\l.classes<=6 then chkE (lI l) (dA l)else 2 else 9
theorem wB{l:Line}(h:¬(1<=l.kind/\l.kind<=5)):kz l=9:=if_neg h
theorem wC{l:Line}(h:1<=l.kind/\l.kind<=5)(g:¬((1<=l.cap/\l.cap<=4000)/\1<=l.classes/\l.classes<=6)):kz l=2:=by unfold kz;rw[if_pos h,if_neg g]
theorem so{l:Line}(h:1<=l.kind/\l.kind<=5)(g:(1<=l.cap/\l.cap<=4000)/\1<=l.classes/\l.classes<=6):kz l=chkE (lI l) (dA l):=by unfold kz;rw[if_pos h,if_pos g]
section
variable (cap cls:Int) (ws sl:List Int)
theorem GR:lI ⟨1,cap,cls,ws,sl⟩↔True:=by simp[lI]
theorem GS:lI ⟨2,cap,cls,ws,sl⟩↔True:=by simp[lI]
theorem EA:lI ⟨3,cap,cls,ws,sl⟩↔(ws.length:Int)=cls/\gG ws 1 20:=by simp[lI]
theorem EB:lI ⟨4,cap,cls,ws,sl⟩↔(ws.length:Int)=cls/\gG ws 1 6000:=by simp[lI]
theorem EC:lI ⟨5,cap,cls,ws,sl⟩↔(1<=(sl.length:Int)/\(sl.length:Int)<=40)/\gG sl (-1) (cls-1):=by simp[lI]
theorem sp:dA ⟨1,cap,cls,ws,sl⟩↔ws=[]/\sl=[]:=by simp[dA]
theorem sq:dA ⟨2,cap,cls,ws,sl⟩↔ws=[]/\sl=[]:=by simp[dA]
theorem sr:dA ⟨3,cap,cls,ws,sl⟩↔sl=[]:=by simp[dA]
theorem ss:dA ⟨4,cap,cls,ws,sl⟩↔sl=[]:=by simp[dA]
theorem su:dA ⟨5,cap,cls,ws,sl⟩↔ws=[]:=by simp[dA]
end
theorem j1(l:Line):kz l=0↔LineOk l:=by
 obtain⟨k,cap,cls,ws,sl⟩:=l;constructor
 ·intro h;by_cases hk:1<=k/\k<=5
  ·by_cases hc:(1<=cap/\cap<=4000)/\1<=cls/\cls<=6
   ·rw[so hk hc]at h;obtain⟨a,b⟩:=chkE_z h;refine⟨hc.1,hc.2,?_⟩;rcases(ω:k=1\/k=2\/k=3\/k=4\/k=5)with rfl|rfl|rfl|rfl|rfl
    ·exact .inl ⟨.inl rfl,(sp ..).1 b⟩
    ·exact .inl ⟨.inr rfl,(sq ..).1 b⟩
    ·rw[EA]at a;exact .inr (.inl ⟨rfl,a.1.symm,a.2,(sr ..).1 b⟩)
    ·rw[EB]at a;exact .inr (.inr (.inl ⟨rfl,a.1.symm,a.2,(ss ..).1 b⟩))
    ·rw[EC]at a;exact .inr (.inr (.inr ⟨rfl,(su ..).1 b,by have:=a.1;show 1<=sl.length;omega,by have:=a.1;show sl.length<=40;omega,a.2⟩))
   ·rw[wC hk hc]at h;cases h
  ·rw[wB hk]at h;cases h
 ·rintro⟨h1,h2,h3⟩;have hk:1<=k/\k<=5:=by rcases h3 with⟨h|h,_⟩|⟨h,_⟩|⟨h,_⟩|⟨h,_⟩<;>(dsimp only at h;omega)
  rw[so hk ⟨h1,h2⟩];rcases h3 with⟨h|h,h4⟩|⟨h,h4,h5,h6⟩|⟨h,h4,h5,h6⟩|⟨h,h4,h5,h6,h7⟩<;>dsimp only at h<;>subst h
  ·exact iS ((GR ..).2 trivial) ((sp ..).2 h4)
  ·exact iS ((GS ..).2 trivial) ((sq ..).2 h4)
  ·exact iS ((EA ..).2 ⟨h4.symm,h5⟩) ((sr ..).2 h6)
  ·exact iS ((EB ..).2 ⟨h4.symm,h5⟩) ((ss ..).2 h6)
  ·exact iS ((EC ..).2 ⟨by dsimp only at h5 h6;omega,h7⟩) ((su ..).2 h4)
section
variable (cap cls:Int) (ws sl:List Int)
theorem ED(k:Int):q0d 298 [.agg [],Line.av ⟨k,cap,cls,ws,sl⟩] (J (chkE True (ws=[]/\sl=[]))):=by
 obtain⟨_,rfl,p⟩:=fv true [ws,sl] η;rw[b5 (r':=True) (u':=ws=[]/\sl=[]) η η]at p;refine opG func298 ntmps298 results298 λ_ _ _=>?_;repeat'(first|refine' ak|(refine bh [.bool true] [] p rfl (ξ _) ?_ ?_ ?_;rotate_left;rotate_left;conv=>whnf))
 all_goals first|exact Ψ|exact aD (by repeat'(first|exact True.intro|rfl|refine And.intro ?_ ?_))
theorem BB(k:Int):q0d 302 [.agg [],Line.av ⟨k,cap,cls,ws,sl⟩] (J (chkE True (ws=[]/\sl=[]))):=by
 obtain⟨_,rfl,p⟩:=fv true [ws,sl] η;rw[b5 (r':=True) (u':=ws=[]/\sl=[]) η η]at p;refine opG func302 ntmps302 results302 λ_ _ _=>?_;repeat'(first|refine' ak|(refine bh [.bool true] [] p rfl (ξ _) ?_ ?_ ?_;rotate_left;rotate_left;conv=>whnf))
 all_goals first|exact Ψ|exact aD (by repeat'(first|exact True.intro|rfl|refine And.intro ?_ ?_))
theorem EE(hc:1<=cls/\cls<=6)(k:Int):q0d 312 [.agg [],Line.av ⟨k,cap,cls,ws,sl⟩] (J (chkE ((ws.length:Int)=cls/\gG ws 1 20) (sl=[]))):=by
 by_cases hl:(ws.length:Int)=cls
 ·obtain⟨b,hb,q⟩:=nT ws 1 20 ω;obtain⟨_,rfl,p⟩:=fv b [sl] η;rw[b5 (r':=(ws.length:Int)=cls/\gG ws 1 20) (u':=sl=[]) (by simp[hb,hl]) η]at p;refine opG func312 ntmps312 results312 λ_ _ _=>?_;repeat'(first|refine' ak|refine ab q ?_|(refine bh [.bool b] [] p rfl (ξ _) ?_ ?_ ?_;rotate_left;rotate_left;conv=>whnf))
  all_goals first|exact Ψ|exact absurd hl ‹_›|exact aD (by repeat'(first|exact True.intro|rfl|refine And.intro ?_ ?_))
 ·obtain⟨_,rfl,p⟩:=fv false [sl] η;rw[b5 (r':=(ws.length:Int)=cls/\gG ws 1 20) (u':=sl=[]) (by simp[hl]) η]at p;refine opG func312 ntmps312 results312 λ_ _ _=>?_;repeat'(first|(refine Υ hl λhb=>?_;conv=>whnf)|refine' ak|(refine bh [.bool false] [] p rfl (ξ _) ?_ ?_ ?_;rotate_left;rotate_left;conv=>whnf))
  all_goals first|exact Ψ|exact aD (by repeat'(first|exact True.intro|rfl|refine And.intro ?_ ?_))
theorem wD(hc:1<=cls/\cls<=6)(k:Int):q0d 327 [.agg [],Line.av ⟨k,cap,cls,ws,sl⟩] (J (chkE ((ws.length:Int)=cls/\gG ws 1 6000) (sl=[]))):=by
 by_cases hl:(ws.length:Int)=cls
 ·obtain⟨b,hb,q⟩:=nT ws 1 6000 ω;obtain⟨_,rfl,p⟩:=fv b [sl] η;rw[b5 (r':=(ws.length:Int)=cls/\gG ws 1 6000) (u':=sl=[]) (by simp[hb,hl]) η]at p;refine opG func327 ntmps327 results327 λ_ _ _=>?_;repeat'(first|refine' ak|refine ab q ?_|(refine bh [.bool b] [] p rfl (ξ _) ?_ ?_ ?_;rotate_left;rotate_left;conv=>whnf))
  all_goals first|exact Ψ|exact absurd hl ‹_›|exact aD (by repeat'(first|exact True.intro|rfl|refine And.intro ?_ ?_))
 ·obtain⟨_,rfl,p⟩:=fv false [sl] η;rw[b5 (r':=(ws.length:Int)=cls/\gG ws 1 6000) (u':=sl=[]) (by simp[hl]) η]at p;refine opG func327 ntmps327 results327 λ_ _ _=>?_;repeat'(first|(refine Υ hl λhb=>?_;conv=>whnf)|refine' ak|(refine bh [.bool false] [] p rfl (ξ _) ?_ ?_ ?_;rotate_left;rotate_left;conv=>whnf))
  all_goals first|exact Ψ|exact aD (by repeat'(first|exact True.intro|rfl|refine And.intro ?_ ?_))
theorem EF(hc:1<=cls/\cls<=6)(k:Int):q0d 337 [.agg [],Line.av ⟨k,cap,cls,ws,sl⟩] (J (chkE ((1<=(sl.length:Int)/\(sl.length:Int)<=40)/\gG sl (-1) (cls-1)) (ws=[]))):=by
 by_cases h1:(1:Int)<=sl.length
 ·by_cases h2:(sl.length:Int)<=40
  ·obtain⟨b,hb,q⟩:=nT sl (-1) (cls-1) ω;obtain⟨_,rfl,p⟩:=fv b [ws] η;rw[b5 (r':=(1<=(sl.length:Int)/\(sl.length:Int)<=40)/\gG sl (-1) (cls-1)) (u':=ws=[]) (by rw[hb];exact⟨λh=>⟨⟨h1,h2⟩,h⟩,λh=>h.2⟩) η]at p;refine opG func337 ntmps337 results337 λ_ _ _=>?_;repeat'(first|refine' ak|refine ab q ?_|(refine bh [.bool b] [] p rfl (ξ _) ?_ ?_ ?_;rotate_left;rotate_left;conv=>whnf))
   all_goals first|exact Ψ|omega|(dsimp only;unfold aj;omega)|exact absurd h1 ‹_›|exact absurd h2 ‹_›|exact aD (by repeat'(first|exact True.intro|rfl|refine And.intro ?_ ?_))
  ·obtain⟨_,rfl,p⟩:=fv false [ws] η;rw[b5 (r':=(1<=(sl.length:Int)/\(sl.length:Int)<=40)/\gG sl (-1) (cls-1)) (u':=ws=[]) ⟨λh=>(by cases h),λh=>absurd h.1.2 h2⟩ η]at p;refine opG func337 ntmps337 results337 λ_ _ _=>?_;repeat'(first|(refine Λ h1 λhb=>?_;conv=>whnf)|(refine Υ h2 λhb=>?_;conv=>whnf)|refine' ak|(refine bh [.bool false] [] p rfl (ξ _) ?_ ?_ ?_;rotate_left;rotate_left;conv=>whnf))
   all_goals first|exact Ψ|exact aD (by repeat'(first|exact True.intro|rfl|refine And.intro ?_ ?_))
 ·obtain⟨_,rfl,p⟩:=fv false [ws] η;rw[b5 (r':=(1<=(sl.length:Int)/\(sl.length:Int)<=40)/\gG sl (-1) (cls-1)) (u':=ws=[]) ⟨λh=>(by cases h),λh=>absurd h.1.1 h1⟩ η]at p;refine opG func337 ntmps337 results337 λ_ _ _=>?_;repeat'(first|(refine Υ h1 λhb=>?_;conv=>whnf)|refine' ak|(refine bh [.bool false] [] p rfl (ξ _) ?_ ?_ ?_;rotate_left;rotate_left;conv=>whnf))
  all_goals first|exact Ψ|exact aD (by repeat'(first|exact True.intro|rfl|refine And.intro ?_ ?_))
end
theorem kf5{k:Int}{a b c d e:AV}(h:¬(1<=k/\k<=5)):gD (J k) [(J 1,a),(J 2,b),(J 3,c),(J 4,d),(J 5,e)] 0=some none:=by
 simp only[gD,if_neg (ω:¬k=1),if_neg (ω:¬k=2),if_neg (ω:¬k=3),if_neg (ω:¬k=4),if_neg (ω:¬k=5)]
theorem BC(k:Int)(h:¬(1<=k/\k<=5)):q0d 211 [J k] (.tup [.niface,.bool false]):=by
 refine opG func211 ntmps211 results211 λ_ _ _=>?_;repeat'(first|refine' ak|(refine VLook.mk ⟨none,rfl,?_⟩;conv=>whnf)|(refine VLook.mk ⟨none,kf5 h,?_⟩;conv=>whnf))
 all_goals exact Ψ
theorem iT{l:Line}(t:Nat)(f:FuncId){r u:Prop}(hkd:1<=l.kind/\l.kind<=5)(h1:lI l↔r)(h2:dA l↔u)(hk:q0d 211 [J l.kind] (.tup [.iface t (.agg []),.bool true]))
  (hm:∀w,(method (prog.types.size+Made.depth) t (.agg #[]) (nmOf 0)).run prog w=.ok (f,.agg #[]) w) (hf:1<=l.classes/\l.classes<=6->q0d f [.agg [],l.av] (J (chkE r u))):q0d 151 [l.av] (J (kz l)):=by
 by_cases hc:(1<=l.cap/\l.cap<=4000)/\1<=l.classes/\l.classes<=6
 ·rw[so hkd hc,b5 h1 h2];have hf:=hf hc.2;refine opG func151 ntmps151 results151 λ_ _ _=>?_;repeat'(first|refine' ak|refine ab hk ?_|(refine VInv.mk ⟨f,λw=>Eq.trans (by kernel_rfl) (hm w),?_⟩;refine ay hf ?_;conv=>whnf))
  all_goals first|omega|exact Ψ
 ·rw[wC hkd hc];refine opG func151 ntmps151 results151 λ_ _ _=>?_;repeat'(first|refine' ak|refine ab hk ?_|fail)
  all_goals first|exact Ψ|(exfalso;omega)|skip
theorem uw(l:Line):q0d 151 [l.av] (J (kz l)):=by
 obtain⟨k,cap,cls,ws,sl⟩:=l;by_cases hk:1<=k/\k<=5
 ·rcases(ω:k=1\/k=2\/k=3\/k=4\/k=5)with rfl|rfl|rfl|rfl|rfl
  ·exact iT 224 298 hk (GR ..) (sp ..) qF rX λ_=>ED ..
  ·exact iT 225 302 hk (GS ..) (sq ..) qG rY λ_=>BB ..
  ·exact iT 226 312 hk (EA ..) (sr ..) qH rZ λh=>EE _ _ _ _ h _
  ·exact iT 227 327 hk (EB ..) (ss ..) qI sa λh=>wD _ _ _ _ h _
  ·exact iT 228 337 hk (EC ..) (su ..) qJ sb λh=>EF _ _ _ _ h _
 ·rw[wB hk];have p:=BC k hk;refine opG func151 ntmps151 results151 λ_ _ _=>?_;repeat'(first|refine' ak|refine ab p ?_)
  all_goals exact Ψ
theorem jP(l:List Int)(hl:l.length<=100000)(lo hi:Int):∃b:Bool,(b=true↔gG l lo hi)/\q0d 148 [ints l,J lo,J hi] (.bool b):=by
 refine opE func148 ntmps148 results148 ?_;repeat'(first|refine' ah|fail)
 refine ag (ι:={i:Nat//i<=l.length/\∀k,k<i->lo<=l.getD k 0/\l.getD k 0<=hi}) [0,1,2] [] [] ⟨0,ω,ν⟩ (λ⟨i,_⟩=>l.length-i) (λ⟨i,_⟩=>[(7,J i)]) (λ_=>[]) ?_ ?_
 ·exact⟨⟨rfl,rfl⟩,sq1,sq1⟩
 ·rintro⟨i,hi1,hI⟩;conv=>whnf
  obtain⟨x,ex⟩:∃x,x=l.getD i 0:=⟨_,rfl⟩;have ex2:l.getD (i:Int).toNat 0=x:=by rw[ex];rfl
  by_cases hx:lo<=x/\x<=hi
  ·skip;repeat'(first|(exact aN [] ⟨i+1,ω,λk hk=>(ζ k i).elim (hI k) λh9=>by have e9:k=i:=ω;subst e9;rw[<-ex];exact hx⟩)|refine' ah|fail)
   all_goals try first|exact ariA|(rw[ex2]at *;exfalso;omega)
   exact ae ⟨true,rfl,λ_=>nS ‹_› hI,λ_=>rfl⟩
  ·skip;repeat'(first|refine' ah|fail)
   all_goals try first|exact ariA|exact ae ⟨false,rfl,λh=>(by cases h),λh=>absurd (h _ (a8 (i:=i) ω)) (by rw[<-ex];exact hx)⟩|(rw[ex2]at *;exfalso;omega)
   exact ae ⟨true,rfl,λ_=>nS ‹_› hI,λ_=>rfl⟩
theorem BD{l:List Int}:(l.length:Int)=0↔l=[]:=⟨λh=>List.eq_nil_of_length_eq_zero ω,λh=>by rw[h];rfl⟩
theorem mF(l:Line):∃e:Int,e=kz l/\q0d 81 [l.av] (J e):=by
 obtain⟨k,cap,cls,ws,sl⟩:=l;by_cases hk:1<=k/\k<=5
 ·by_cases hc:(1<=cap/\cap<=4000)/\1<=cls/\cls<=6
  ·rw[so hk hc];have hws:=BD (l:=ws);have hsl:=BD (l:=sl);rcases(ω:k=1\/k=2\/k=3\/k=4\/k=5)with rfl|rfl|rfl|rfl|rfl
   ·rw[b5 (GR ..) (sp ..),<-hws,<-hsl];by_cases hu:(ws.length:Int)=0/\(sl.length:Int)=0
    ·rw[iS trivial hu];refine opE func81 ntmps81 results81 ?_;repeat'(first|refine' ah|fail)
     all_goals first|exact ae ⟨_,rfl,rfl⟩|exact ariA|(exfalso;omega)|(exfalso;dsimp only at *;omega)
    ·rw[nR trivial hu];refine opE func81 ntmps81 results81 ?_;repeat'(first|refine' ah|fail)
     all_goals first|exact ae ⟨_,rfl,rfl⟩|exact ariA|(exfalso;omega)|(exfalso;dsimp only at *;omega)
   ·rw[b5 (GS ..) (sq ..),<-hws,<-hsl];by_cases hu:(ws.length:Int)=0/\(sl.length:Int)=0
    ·rw[iS trivial hu];refine opE func81 ntmps81 results81 ?_;repeat'(first|refine' ah|fail)
     all_goals first|exact ae ⟨_,rfl,rfl⟩|exact ariA|(exfalso;omega)|(exfalso;dsimp only at *;omega)
    ·rw[nR trivial hu];refine opE func81 ntmps81 results81 ?_;repeat'(first|refine' ah|fail)
     all_goals first|exact ae ⟨_,rfl,rfl⟩|exact ariA|(exfalso;omega)|(exfalso;dsimp only at *;omega)
   ·rw[b5 (EA ..) (sr ..),<-hsl];by_cases hl:(ws.length:Int)=cls
    ·obtain⟨b,hb,p⟩:=jP ws ω 1 20;rcases b with _|_
     ·rw[mE λh=>by have:=hb.2 h.2;cases this];refine opE func81 ntmps81 results81 ?_;repeat'(first|refine' ah|refine ab p ?_)
      all_goals first|exact ae ⟨_,rfl,rfl⟩|exact ariA|(exfalso;omega)|(exfalso;dsimp only at *;omega)
     ·by_cases hu:(sl.length:Int)=0
      ·rw[iS ⟨hl,hb.1 rfl⟩ hu];refine opE func81 ntmps81 results81 ?_;repeat'(first|refine' ah|refine ab p ?_)
       all_goals first|exact ae ⟨_,rfl,rfl⟩|exact ariA|(exfalso;omega)|(exfalso;dsimp only at *;omega)
      ·rw[nR ⟨hl,hb.1 rfl⟩ hu];refine opE func81 ntmps81 results81 ?_;repeat'(first|refine' ah|refine ab p ?_)
       all_goals first|exact ae ⟨_,rfl,rfl⟩|exact ariA|(exfalso;omega)|(exfalso;dsimp only at *;omega)
    ·rw[mE λh=>hl h.1];refine opE func81 ntmps81 results81 ?_;repeat'(first|refine' ah|fail)
     all_goals first|exact ae ⟨_,rfl,rfl⟩|exact ariA|(exfalso;omega)|(exfalso;dsimp only at *;omega)
   ·rw[b5 (EB ..) (ss ..),<-hsl];by_cases hl:(ws.length:Int)=cls
    ·obtain⟨b,hb,p⟩:=jP ws ω 1 6000;rcases b with _|_
     ·rw[mE λh=>by have:=hb.2 h.2;cases this];refine opE func81 ntmps81 results81 ?_;repeat'(first|refine' ah|refine ab p ?_)
      all_goals first|exact ae ⟨_,rfl,rfl⟩|exact ariA|(exfalso;omega)|(exfalso;dsimp only at *;omega)
     ·by_cases hu:(sl.length:Int)=0
      ·rw[iS ⟨hl,hb.1 rfl⟩ hu];refine opE func81 ntmps81 results81 ?_;repeat'(first|refine' ah|refine ab p ?_)
       all_goals first|exact ae ⟨_,rfl,rfl⟩|exact ariA|(exfalso;omega)|(exfalso;dsimp only at *;omega)
      ·rw[nR ⟨hl,hb.1 rfl⟩ hu];refine opE func81 ntmps81 results81 ?_;repeat'(first|refine' ah|refine ab p ?_)
       all_goals first|exact ae ⟨_,rfl,rfl⟩|exact ariA|(exfalso;omega)|(exfalso;dsimp only at *;omega)
    ·rw[mE λh=>hl h.1];refine opE func81 ntmps81 results81 ?_;repeat'(first|refine' ah|fail)
     all_goals first|exact ae ⟨_,rfl,rfl⟩|exact ariA|(exfalso;omega)|(exfalso;dsimp only at *;omega)
   ·rw[b5 (EC ..) (su ..),<-hws];by_cases hl:1<=(sl.length:Int)/\(sl.length:Int)<=40
    ·obtain⟨b,hb,p⟩:=jP sl ω (-1) (cls-1);rcases b with _|_
     ·rw[mE λh=>by have:=hb.2 h.2;cases this];refine opE func81 ntmps81 results81 ?_;repeat'(first|refine' ah|refine ab p ?_)
      all_goals first|exact ae ⟨_,rfl,rfl⟩|exact ariA|(exfalso;omega)|(exfalso;dsimp only at *;omega)
     ·by_cases hu:(ws.length:Int)=0
      ·rw[iS ⟨hl,hb.1 rfl⟩ hu];refine opE func81 ntmps81 results81 ?_;repeat'(first|refine' ah|refine ab p ?_)
       all_goals first|exact ae ⟨_,rfl,rfl⟩|exact ariA|(exfalso;omega)|(exfalso;dsimp only at *;omega)
      ·rw[nR ⟨hl,hb.1 rfl⟩ hu];refine opE func81 ntmps81 results81 ?_;repeat'(first|refine' ah|refine ab p ?_)
       all_goals first|exact ae ⟨_,rfl,rfl⟩|exact ariA|(exfalso;omega)|(exfalso;dsimp only at *;omega)
    ·rw[mE λh=>hl h.1];refine opE func81 ntmps81 results81 ?_;repeat'(first|refine' ah|fail)
     all_goals first|exact ae ⟨_,rfl,rfl⟩|exact ariA|(exfalso;omega)|(exfalso;dsimp only at *;omega)
  ·rw[wC hk hc];rcases(ω:k=1\/k=2\/k=3\/k=4\/k=5)with rfl|rfl|rfl|rfl|rfl
   ·refine opE func81 ntmps81 results81 ?_;repeat'(first|refine' ah|fail)
    all_goals first|exact ae ⟨_,rfl,rfl⟩|exact ariA|(exfalso;omega)|(exfalso;dsimp only at *;omega)
   ·refine opE func81 ntmps81 results81 ?_;repeat'(first|refine' ah|fail)
    all_goals first|exact ae ⟨_,rfl,rfl⟩|exact ariA|(exfalso;omega)|(exfalso;dsimp only at *;omega)
   ·refine opE func81 ntmps81 results81 ?_;repeat'(first|refine' ah|fail)
    all_goals first|exact ae ⟨_,rfl,rfl⟩|exact ariA|(exfalso;omega)|(exfalso;dsimp only at *;omega)
   ·refine opE func81 ntmps81 results81 ?_;repeat'(first|refine' ah|fail)
    all_goals first|exact ae ⟨_,rfl,rfl⟩|exact ariA|(exfalso;omega)|(exfalso;dsimp only at *;omega)
   ·refine opE func81 ntmps81 results81 ?_;repeat'(first|refine' ah|fail)
    all_goals first|exact ae ⟨_,rfl,rfl⟩|exact ariA|(exfalso;omega)|(exfalso;dsimp only at *;omega)
 ·rw[wB hk];refine opE func81 ntmps81 results81 ?_;repeat'(first|refine' ah|fail)
  all_goals first|exact ae ⟨_,rfl,rfl⟩|exact ariA|(exfalso;omega)|(exfalso;dsimp only at *;omega)
def ux(l:List Int):Nat->Int
 |0=>0
 |j+1=>l.getD j 0
theorem iU{c:Curve}(h:c.valid=true):1<=c.vals.length/\c.vals.length<=400:=by
 unfold Curve.valid at h;split at h
 ·cases h
 ·omega
theorem mG(c:Curve):∃b:Bool,b=c.valid/\q0d 95 [c.av] (.bool b):=by
 by_cases hc:1<=c.vals.length/\c.vals.length<=400/\1<=c.per/\c.per<=120/\c.per<=c.vals.length/\0<=c.inc/\c.inc<=1073741824
 ·have ell:((c.vals.length:Int)-1).toNat=c.vals.length-1:=ω;have hv:c.valid=match runs 0 c.vals with
   |none=>false
   |some last=>if last=inf then decide (c.per=1)&&decide (c.inc=0)else decide (last<=c.vals.getD (c.vals.length-c.per).toNat 0+c.inc):=by
   unfold Curve.valid;rw[if_neg ω];rfl
  refine opE func95 ntmps95 results95 ?_;repeat'(first|refine' ah|fail)
  all_goals try first|exact ariA|(exfalso;omega)|(exfalso;dsimp only at *;omega)
  refine ag (ι:={j:Nat//j<=c.vals.length/\0<=ux c.vals j/\ux c.vals j<=inf/\runs 0 c.vals=runs (ux c.vals j) (c.vals.drop j)}) [1,3] [1] [] ⟨0,π _,Int.le_refl 0,(φ:(0:Int)<=inf),rfl⟩ (λ⟨j,_⟩=>c.vals.length-j) (λ⟨j,_⟩=>[(4,J j)]) (λ_=>[]) ?_ ?_
  ·exact⟨⟨rfl,rfl⟩,sq1,sq1⟩
  ·rintro⟨j,hj,hl0,hl1,hr⟩;conv=>whnf
   by_cases hjl:(j:Int)<c.vals.length
   ·obtain⟨v,ev⟩:∃v,v=c.vals.getD j 0:=⟨_,rfl⟩;have ev2:c.vals.getD (j:Int).toNat 0=v:=by rw[ev];rfl
    obtain⟨p,ep⟩:∃p,p=ux c.vals j:=⟨_,rfl⟩;have ep2:0<j->c.vals.getD ((j:Int)-1).toNat 0=p:=λh=>by
     rw[ep,(ω:((j:Int)-1).toNat=j-1)];cases j with
     |zero=>omega
     |succ j=>rfl
    have ep3:j=0->p=0:=λh=>by rw[ep,h];rfl
    rw[<-ep]at hl0 hl1 hr;have hs:=nO (ω:j<c.vals.length) hr;rw[<-ev]at hs;unfold inf at hs;by_cases hg:(v=4611686018427387904\/(0<=v/\v<=1073741824))/\p<=v
    ·rw[if_neg ω]at hs;repeat'(first|(refine Λ hjl λhb=>?_;conv=>whnf)|(exact aT [] ⟨j+1,ω,by show 0<=c.vals.getD j 0;rw[<-ev];omega,by show c.vals.getD j 0<=inf;rw[<-ev];unfold inf;omega,by show _=runs (c.vals.getD j 0) _;rw[<-ev];exact hs⟩ ⟨⟨rfl,rfl⟩,sq1,sq1⟩ (by first|omega|(dsimp only;omega)))|refine' ah|fail)
     all_goals try exact ariA
     all_goals(try(have ep4:=ep2 ω;rw[ep4]at *));(try rw[ev2]at *);exfalso;omega
    ·rw[if_pos ω]at hs;rw[hs]at hv;repeat'(first|(refine Λ hjl λhb=>?_;conv=>whnf)|refine' ah|fail)
     all_goals try first|exact ariA|exact ae ⟨false,rfl,hv.symm⟩
     all_goals(try(have ep4:=ep2 ω;rw[ep4]at *));(try rw[ev2]at *);exfalso;(try have ep5:=ep3 ω);omega
   ·have ej:j=c.vals.length:=ω;subst ej;rw[List.drop_eq_nil_of_le (ξ _)]at hr;have hlast:ux c.vals c.vals.length=c.vals.getD (c.vals.length-1) 0:=by
     cases hn:c.vals.length with
     |zero=>omega
     |succ k=>rfl
    rw[hlast]at hr hl0 hl1;have hq:=(lE hr).2 _ (a8 (i:=((c.vals.length:Int)-c.per).toNat) ω);unfold inf at hq hl1;rw[<-ell]at hr hl0 hl1;have hr:runs 0 c.vals=some (c.vals.getD ((c.vals.length:Int)-1).toNat 0):=hr;rw[hr]at hv;dsimp only at hv;unfold inf at hv;repeat'(first|(refine Υ hjl λhb=>?_;conv=>whnf)|refine' ah|fail)
    all_goals try exact ariA
    ·exact ae ⟨_,rfl,by rw[hv,if_pos ‹_›,decide_eq_true (p:=c.per=1) ‹_›];rfl⟩
    ·exact ae ⟨false,rfl,by rw[hv,if_pos ‹_›,decide_eq_false (p:=c.per=1) ‹_›];rfl⟩
    ·exact ae ⟨_,rfl,by rw[hv,if_neg ‹_›]⟩
 ·have hv:c.valid=false:=by
   unfold Curve.valid;rw[if_pos ω]
  refine opE func95 ntmps95 results95 ?_;repeat'(first|refine' ah|fail)
  all_goals try first|exact ae ⟨false,rfl,hv.symm⟩
  all_goals exfalso;omega
theorem sx(c:Curve)(hv:c.valid=true):∃b:Bool,(b=true↔c.vals.getD (c.vals.length-1) 0≠inf)/\q0d 97 [c.av] (.bool b):=by
 obtain⟨b,hb,p⟩:=mG c;rw[hv]at hb;subst hb;have hl:=iU hv;have ell:((c.vals.length:Int)-1).toNat=c.vals.length-1:=ω;refine opE func97 ntmps97 results97 ?_;repeat'(first|refine' ah|refine ab p ?_)
 all_goals try first|exact ariA|(exfalso;omega)|(exfalso;dsimp only at *;omega)
 exact ae ⟨_,rfl,by
  show(!decide (c.vals.getD ((c.vals.length:Int)-1).toNat 0=4611686018427387904))=true↔_;rw[ell];simp[inf]⟩
theorem BE(c:Curve)(hv:c.valid=true):∃b:Bool,(b=true↔c.vals.getD (c.vals.length-1) 0≠inf)/\q0d 212 [c.av] (.bool b):=by
 have hl:=iU hv;by_cases hf:c.vals.getD (c.vals.length-1) 0=inf
 ·have e:((c.vals.length:Int)-1).toNat=c.vals.length-1:=ω;have p:q0d 182 [c.av] (.bool false):=by
   refine opG func182 ntmps182 results182 λ_ _ _=>?_;repeat'(first|refine' ak|fail)
   all_goals first|exact ariA|skip
   refine Θ ?_;show AV.bool (!decide (c.vals.getD ((c.vals.length:Int)-1).toNat 0=4611686018427387904))=_;rw[e,decide_eq_true (show c.vals.getD (c.vals.length-1) 0=4611686018427387904 from hf)];rfl
  have h:=dd c;rw[hv]at h;refine⟨false,⟨λe=>(by cases e),λg=>absurd hf g⟩,?_⟩;refine opG func212 ntmps212 results212 λ_ _ _=>?_;repeat'(first|refine' ak|refine ab h ?_|refine ab p ?_)
  all_goals try dsimp only at hb
  all_goals try simp only[χ]at hb
  all_goals first|exact Ψ|exactλ_ _=>rfl|omega|(dsimp only;omega)|(dsimp only;unfold aj;omega)|((repeat'(first|exact True.intro|refine And.intro ?_ ?_))<;>first|rfl|exactλ_ _=>rfl|(refine Ξ ?_;dsimp only;omega)|((conv=>whnf)<;>first|exact Ψ|exact q0a|(refine Ξ ?_;dsimp only;omega)))
 ·exact⟨true,⟨λ_=>hf,λ_=>rfl⟩,wA c hv hl hf⟩
def gg(f:Nat->Int):Nat->Int
 |0=>0
 |j+1=>if gg f j=0 then f j else gg f j
theorem dB{f:Nat->Int}:∀{j:Nat},(∀i,i<j->f i=0)->gg f j=0
 |0,_=>rfl
 |j+1,h=>by
  unfold gg;rw[if_pos (dB λi hi=>h i ω)];exact h j ω
theorem j2{f:Nat->Int}:∀{j:Nat},gg f j=0->∀i,i<j->f i=0
 |0,_,i,hi=>absurd hi (Nat.not_lt_zero i)
 |j+1,h,i,hi=>by
  unfold gg at h;by_cases e:gg f j=0
  ·rw[if_pos e]at h;rcases ζ i j with g|g
   ·exact j2 e i g
   ·obtain rfl:i=j:=ω;exact h
  ·rw[if_neg e]at h;exact absurd h e
theorem k6{f:Nat->Int}{j:Nat}(h:∀i,i<j->f i=0)(hj:f j≠0):∀{m:Nat},j<m->gg f m=f j
 |m+1,hm=>by
  unfold gg;rcases ζ j m with g|g
  ·rw[k6 h hj g,if_neg hj]
  ·obtain rfl:j=m:=ω;rw[if_pos (dB h)]
open Classical in
noncomputable def iV(keys:List ByteArray)(nm:ByteArray):Int:=if WordP nm then if nm∈keys then 60 else 0 else 4
theorem nU{keys:List ByteArray}{nm:ByteArray}(h:¬WordP nm):iV keys nm=4:=if_neg h
theorem k7{keys:List ByteArray}{nm:ByteArray}(h:WordP nm)(g:nm∈keys):iV keys nm=60:=by unfold iV;rw[if_pos h,if_pos g]
theorem lJ{keys:List ByteArray}{nm:ByteArray}(h:WordP nm)(g:nm∉keys):iV keys nm=0:=by unfold iV;rw[if_pos h,if_neg g]
theorem sy{keys:List ByteArray}{nm:ByteArray}(h:iV keys nm=0):WordP nm/\nm∉keys:=by
 by_cases a:WordP nm
 ·by_cases b:nm∈keys
  ·rw[k7 a b]at h;cases h
  ·exact⟨a,b⟩
 ·rw[nU a]at h;cases h
open Classical in
noncomputable def hopE(n:Net)(f:Flow)(j:Nat):Int:=if 0<=f.route.getD j 0/\f.route.getD j 0<n.lines.length then if f.route.getD j 0∈f.route.take j then 60 else if 0<=f.class_/\f.class_<(n.lines.getD (f.route.getD j 0).toNat default).classes then 0 else 2 else 2
noncomputable def dt(n:Net)(f:Flow):Int:=if f.route.length=0 then 5 else if 4<f.route.length then 3 else gg (hopE n f) f.route.length
def lK(f:Flow):Int:=if 1<=f.least/\f.least<=f.most/\f.most<=1500 then if f.con.valid then if f.con.vals.getD 0 0=0 then if f.con.vals.getD (f.con.vals.length-1) 0=inf then 2 else 0 else 6 else 1 else 2
theorem BF{n:Net}{f:Flow}{j:Nat}(h1:0<=f.route.getD j 0/\f.route.getD j 0<n.lines.length)(h2:f.route.getD j 0∉f.route.take j)(h3:0<=f.class_/\f.class_<(n.lines.getD (f.route.getD j 0).toNat default).classes):hopE n f j=0:=by
 unfold hopE;rw[if_pos h1,if_neg h2,if_pos h3]
theorem wE{n:Net}{f:Flow}{j:Nat}(h1:0<=f.route.getD j 0/\f.route.getD j 0<n.lines.length)(h2:f.route.getD j 0∈f.route.take j):hopE n f j=60:=by
 unfold hopE;rw[if_pos h1,if_pos h2]
theorem yr{n:Net}{f:Flow}{j:Nat}(h:¬(0<=f.route.getD j 0/\f.route.getD j 0<n.lines.length)\/f.route.getD j 0∉f.route.take j/\¬(0<=f.class_/\f.class_<(n.lines.getD (f.route.getD j 0).toNat default).classes)):hopE n f j=2:=by
 unfold hopE;by_cases h1:0<=f.route.getD j 0/\f.route.getD j 0<n.lines.length
 ·obtain⟨h2,h3⟩:=h.resolve_left λg=>g h1;rw[if_pos h1,if_neg h2,if_neg h3]
 ·rw[if_neg h1]
theorem hopE_z{n:Net}{f:Flow}{j:Nat}(h:hopE n f j=0):(0<=f.route.getD j 0/\f.route.getD j 0<n.lines.length)/\f.route.getD j 0∉f.route.take j/\0<=f.class_/\f.class_<(n.lines.getD (f.route.getD j 0).toNat default).classes:=by
 by_cases h1:0<=f.route.getD j 0/\f.route.getD j 0<n.lines.length
 ·by_cases h2:f.route.getD j 0∈f.route.take j
  ·rw[wE h1 h2]at h;cases h
  ·by_cases h3:0<=f.class_/\f.class_<(n.lines.getD (f.route.getD j 0).toNat default).classes
   ·exact⟨h1,h2,h3⟩
   ·rw[yr (.inr ⟨h2,h3⟩)]at h;cases h
 ·rw[yr (.inl h1)]at h;cases h
theorem uy{n:Net}{f:Flow}(h1:f.route.length≠0)(h4:f.route.length<=4){j:Nat}(hI:∀i,i<j->hopE n f i=0)(hj:j<f.route.length){e:Int}(he:e≠0)(h:hopE n f j=e):e=dt n f:=by
 unfold dt;rw[if_neg h1,if_neg ω,k6 hI (by rw[h];exact he) hj,h]
theorem lL{n:Net}{f:Flow}(h1:f.route.length≠0)(h4:f.route.length<=4)(hI:∀i,i<f.route.length->hopE n f i=0):0=dt n f:=by
 unfold dt;rw[if_neg h1,if_neg ω,dB hI]
theorem wG{f:Flow}(h:¬(1<=f.least/\f.least<=f.most/\f.most<=1500)):2=lK f:=(if_neg h).symm
theorem mX{f:Flow}(h:1<=f.least/\f.least<=f.most/\f.most<=1500):lK f=if f.con.valid then if f.con.vals.getD 0 0=0 then if f.con.vals.getD (f.con.vals.length-1) 0=inf then 2 else 0 else 6 else 1:=if_pos h
theorem wH{f:Flow}(h:1<=f.least/\f.least<=f.most/\f.most<=1500)(g:f.con.valid=false):1=lK f:=by rw[mX h,g];rfl
theorem wI{f:Flow}(h:1<=f.least/\f.least<=f.most/\f.most<=1500)(g:f.con.valid=true)(k:¬f.con.vals.getD 0 0=0):6=lK f:=by rw[mX h,if_pos g,if_neg k]
theorem wJ{f:Flow}(h:1<=f.least/\f.least<=f.most/\f.most<=1500)(g:f.con.valid=true)(k:f.con.vals.getD 0 0=0)(m:f.con.vals.getD (f.con.vals.length-1) 0=inf):2=lK f:=by rw[mX h,if_pos g,if_pos k,if_pos m]
theorem wK{f:Flow}(h:1<=f.least/\f.least<=f.most/\f.most<=1500)(g:f.con.valid=true)(k:f.con.vals.getD 0 0=0)(m:f.con.vals.getD (f.con.vals.length-1) 0≠inf):0=lK f:=by rw[mX h,if_pos g,if_pos k,if_neg m]
theorem uz{x:Int}:∀{l:List Int} (i:Nat),x∈l->∃j,gD (J x) (l.map λy=>(J y,.bool true)) i=some (some (j,.bool true))
 |y::l,i,h=>by
  by_cases e:x=y
  ·exact⟨i,by simp only[List.map_cons,gD,if_pos e]⟩
  ·obtain⟨j,hj⟩:=uz (l:=l) (i+1) (by simpa[e]using h);exact⟨j,by simp only[List.map_cons,gD,if_neg e];exact hj⟩
theorem lM{x:ByteArray}:∀{l:List ByteArray} (i:Nat),x∈l->∃j,gD (.str x) (l.map λy=>(.str y,.bool true)) i=some (some (j,.bool true))
 |y::l,i,h=>by
  by_cases e:x=y
  ·exact⟨i,by simp only[List.map_cons,gD,if_pos e]⟩
  ·obtain⟨j,hj⟩:=lM (l:=l) (i+1) (by simpa[e]using h);exact⟨j,by simp only[List.map_cons,gD,if_neg e];exact hj⟩
theorem GT(keys:List ByteArray)(nm:ByteArray)(hw:q0d 210 [.str nm] (.bool true))(hn:nm∉keys):q0c 150 [.mref 37,.str nm] [(37,.map (gV keys))] (J 0) [(37,.map (gV (keys++[nm])))]:=by
 refine opG func150 ntmps150 results150 (λ_ _ _=>?_) (hcl:=⟨rfl,rfl,rfl,bt ca,bt ca,rfl⟩);repeat'(first|refine' dX|refine ab hw ?_|(refine VLook.mk ⟨none,lH 0 hn,?_⟩;conv=>whnf))
 ·exact Ψ
 ·show some (LObj.map (gV keys++[(.str nm,.bool true)]))=_;simp[gV]
theorem GU(keys:List ByteArray)(nm:ByteArray)(hw:q0d 210 [.str nm] (.bool true))(hn:nm∉keys):q0c 150 [.mref 62,.str nm] [(62,.map (gV keys))] (J 0) [(62,.map (gV (keys++[nm])))]:=by
 refine opG func150 ntmps150 results150 (λ_ _ _=>?_) (hcl:=⟨rfl,rfl,rfl,bt ca,bt ca,rfl⟩);repeat'(first|refine' dX|refine ab hw ?_|(refine VLook.mk ⟨none,lH 0 hn,?_⟩;conv=>whnf))
 ·exact Ψ
 ·show some (LObj.map (gV keys++[(.str nm,.bool true)]))=_;simp[gV]
theorem Ag(keys:List ByteArray)(nm:ByteArray):∃ks,(iV keys nm=0->ks=keys++[nm])/\q0c 150 [.mref 37,.str nm] [(37,.map (gV keys))] (J (iV keys nm)) [(37,.map (gV ks))]:=by
 obtain⟨b,hb,p⟩:=yo nm;rcases b with _|_
 ·rw[nU λh=>by have:=hb.2 h;cases this];refine⟨keys,λh=>absurd h φ,?_⟩;refine opG func150 ntmps150 results150 (λ_ _ _=>?_) (hcl:=⟨rfl,rfl,rfl,bt ca,bt ca,rfl⟩);repeat'(first|refine' dX|refine ab p ?_)
  all_goals first|exact Ψ|rfl
 ·by_cases hin:nm∈keys
  ·rw[k7 (hb.1 rfl) hin];refine⟨keys,λh=>absurd h φ,?_⟩;obtain⟨q,hq⟩:=lM 0 hin;refine opG func150 ntmps150 results150 (λ_ _ _=>?_) (hcl:=⟨rfl,rfl,rfl,bt ca,bt ca,rfl⟩);repeat'(first|refine' dX|refine ab p ?_|(refine VLook.mk ⟨some (q,.bool true),hq,?_⟩;conv=>whnf))
   all_goals first|exact Ψ|rfl
  ·rw[lJ (hb.1 rfl) hin];exact⟨keys++[nm],λ_=>rfl,GT keys nm p hin⟩
theorem Ah(keys:List ByteArray)(nm:ByteArray):∃ks,(iV keys nm=0->ks=keys++[nm])/\q0c 150 [.mref 62,.str nm] [(62,.map (gV keys))] (J (iV keys nm)) [(62,.map (gV ks))]:=by
 obtain⟨b,hb,p⟩:=yo nm;rcases b with _|_
 ·rw[nU λh=>by have:=hb.2 h;cases this];refine⟨keys,λh=>absurd h φ,?_⟩;refine opG func150 ntmps150 results150 (λ_ _ _=>?_) (hcl:=⟨rfl,rfl,rfl,bt ca,bt ca,rfl⟩);repeat'(first|refine' dX|refine ab p ?_)
  all_goals first|exact Ψ|rfl
 ·by_cases hin:nm∈keys
  ·rw[k7 (hb.1 rfl) hin];refine⟨keys,λh=>absurd h φ,?_⟩;obtain⟨q,hq⟩:=lM 0 hin;refine opG func150 ntmps150 results150 (λ_ _ _=>?_) (hcl:=⟨rfl,rfl,rfl,bt ca,bt ca,rfl⟩);repeat'(first|refine' dX|refine ab p ?_|(refine VLook.mk ⟨some (q,.bool true),hq,?_⟩;conv=>whnf))
   all_goals first|exact Ψ|rfl
  ·rw[lJ (hb.1 rfl) hin];exact⟨keys++[nm],λ_=>rfl,GU keys nm p hin⟩
theorem EG(n:Net)(f:Flow):∃e:Int,e=dt n f/\q0d 152 [n.av,f.av] (J e):=by
 by_cases h0:(f.route.length:Int)=0
 ·refine⟨5,by unfold dt;rw[if_pos ω],?_⟩;refine opG func152 ntmps152 results152 λ_ _ _=>?_;repeat'(first|(refine Λ h0 λhb=>?_;conv=>whnf)|refine' ak|fail)
  all_goals exact Ψ
 by_cases h4:(f.route.length:Int)>4
 ·refine⟨3,by unfold dt;rw[if_neg ω,if_pos ω],?_⟩;refine opG func152 ntmps152 results152 λ_ _ _=>?_;repeat'(first|(refine Λ h4 λhb=>?_;conv=>whnf)|(refine Υ h0 λhb=>?_;conv=>whnf)|refine' ak|fail)
  all_goals exact Ψ
 refine opE func152 ntmps152 results152 ?_;repeat'(first|(refine Υ h4 λhb=>?_;conv=>whnf)|(refine Υ h0 λhb=>?_;conv=>whnf)|refine' ah|fail)
 refine ag (ι:={j:Nat//j<=f.route.length/\∀i,i<j->hopE n f i=0}) [2,3,5,18,19] [2,3] [] ⟨0,π _,ν⟩ (λ⟨j,_⟩=>f.route.length-j) (λ⟨j,_⟩=>[(20,J j)]) (λ⟨j,_⟩=>[(16,some (.map (E9 (f.route.take j))))]) ?_ ?_
 ·refine⟨⟨rfl,rfl⟩,?_,?_⟩;all_goals((refine' subP)<;>first|exact yq|exact sq1)
 ·rintro⟨j,hj,hI⟩;conv=>whnf
  by_cases hjl:(j:Int)<f.route.length
  ·have hE:=λ(e:Int) (he:e≠0)=>uy ω ω hI ω he;obtain⟨x,ex⟩:∃x,x=f.route.getD j 0:=⟨_,rfl⟩;have ex2:f.route.getD (j:Int).toNat 0=x:=by rw[ex];rfl
   have e60:=λh1 h2=>hE 60 φ (wE h1 h2);have e2:=λh=>hE 2 φ (yr h);have e0:=BF (n:=n) (f:=f) (j:=j);rw[<-ex]at e60 e2 e0;by_cases hin:x∈f.route.take j
   ·obtain⟨q,hq⟩:=uz 0 hin;repeat'(first|(refine Λ hjl λhb=>?_;conv=>whnf)|refine' ah|(refine VLook.mk ⟨some (q,.bool true),(congrArg (λz=>gD (J z) _ 0) ex2).trans hq,?_⟩;conv=>whnf))
    all_goals try first|exact ariA|(rw[ex2]at *;omega)
    all_goals rw[ex2]at *
    all_goals first|exact ae ⟨_,rfl,e60 ⟨ω,ω⟩ hin⟩|exact ae ⟨_,rfl,e2 (.inl ω)⟩
   ·have hk:=uv (x:=x) 0 hin;by_cases hp:(0<=x/\x<n.lines.length)/\0<=f.class_/\f.class_<(n.lines.getD x.toNat default).classes
    ·obtain⟨p1,p3,p4⟩:=hp;repeat'(first|(refine Λ hjl λhb=>?_;conv=>whnf)|(refine' aR [] ⟨j+1,ω,λi hi=>(ζ i j).elim (hI i) λh9=>by have e9:i=j:=ω;subst e9;exact e0 p1 hin ⟨p3,p4⟩⟩<;>first|exact yq|(show ObLe (.map (E9 (f.route.take j)++[(J (f.route.getD j 0),.bool true)])) (.map (List.map _ (E9 (f.route.take (j+1)))));refine ObLe.of_eq ?_;rw[jF ω];simp[E9,reV];rfl)|exact sq1)|refine' ah|(refine VLook.mk ⟨none,(congrArg (λz=>gD (J z) _ 0) ex2).trans hk,?_⟩;conv=>whnf))
     all_goals try first|exact ariA|(rw[ex2]at *;omega)|(exfalso;rw[ex2]at *;omega)
    ·have hF:2=dt n f:=e2 ((Decidable.em (0<=x/\x<(n.lines.length:Int))).elim (λa=>.inr ⟨hin,λb=>hp ⟨a,b⟩⟩) .inl);repeat'(first|(refine Λ hjl λhb=>?_;conv=>whnf)|refine' ah|(refine VLook.mk ⟨none,(congrArg (λz=>gD (J z) _ 0) ex2).trans hk,?_⟩;conv=>whnf))
     all_goals try first|exact ariA|(rw[ex2]at *;omega)|exact ae ⟨_,rfl,hF⟩|(exfalso;rw[ex2]at *;exact hp ⟨ω,ω,ω⟩)
  ·skip;repeat'(first|(refine Υ hjl λhb=>?_;conv=>whnf)|refine' ah|fail)
   all_goals try exact ariA
   exact ae ⟨0,rfl,lL ω ω λi hi=>hI i ω⟩
theorem Ai(f:Flow):∃e:Int,e=lK f/\q0d 153 [f.av] (J e):=by
 have hv:=dd f.con;by_cases hs:1<=f.least/\f.least<=f.most/\f.most<=1500
 ·cases hvb:f.con.valid with
  |false=>
   rw[hvb]at hv;have hf:=hv;refine opE func153 ntmps153 results153 ?_;repeat'(first|refine' ah|refine ab hv ?_|refine ab hf ?_)
   all_goals first|exact ae ⟨_,rfl,wH hs hvb⟩|(exfalso;omega)
  |true=>
   rw[hvb]at hv;have hl:=iU hvb;obtain⟨b,hb0,hf⟩:=BE f.con hvb;by_cases hz:f.con.vals.getD 0 0=0
   ·rcases b with _|_
    ·refine opE func153 ntmps153 results153 ?_;repeat'(first|refine' ah|refine ab hv ?_|refine ab hf ?_)
     all_goals first|omega|exact ae ⟨_,rfl,wJ hs hvb hz (Decidable.not_not.1 λh=>by have:=hb0.2 h;cases this)⟩|(exfalso;omega)|(exfalso;exact absurd hz ‹_›)
    ·refine opE func153 ntmps153 results153 ?_;repeat'(first|refine' ah|refine ab hv ?_|refine ab hf ?_)
     all_goals first|omega|exact ae ⟨_,rfl,wK hs hvb hz (hb0.1 rfl)⟩|(exfalso;omega)|(exfalso;exact absurd hz ‹_›)
   ·refine opE func153 ntmps153 results153 ?_;repeat'(first|refine' ah|refine ab hv ?_|refine ab hf ?_)
    all_goals first|omega|exact ae ⟨_,rfl,wI hs hvb hz⟩|(exfalso;omega)|(exfalso;exact absurd ‹_› hz)
 ·have hf:=hv;refine opE func153 ntmps153 results153 ?_;repeat'(first|refine' ah|fail)
  all_goals first|exact ae ⟨_,rfl,wG hs⟩|(exfalso;omega)
theorem Gv{a b:ByteArray}(h:¬a=b):(a.toList==b.toList)=false:=by
 cases hb:(a.toList==b.toList)with
 |false=>rfl
 |true=>exact absurd (ur _ _ (eq_of_beq hb)) h
theorem s8{α:Type}{l:List α}(d:α){j:Nat}{x:α}(hj:j<=l.length)(h:∀i,i<j->l.getD i d≠x):x∉l.take j:=λhx=>by
 obtain⟨i,hi,e⟩:=List.mem_iff_getElem.1 hx;have h1:i<j:=by simp at hi;omega
 refine h i h1 ?_;rw[ψ,β ω];rw[List.getElem_take]at e;exact e
theorem wL{α:Type}{l:List α}(d:α){i j:Nat}(hi:i<j)(hj:j<=l.length):l.getD i d∈l.take j:=by
 rw[ψ,β ω];exact List.mem_iff_getElem.2 ⟨i,by simp;omega,by simp⟩
noncomputable def lN(a b:Int):Int:=if a=0 then b else a
theorem dZ{a b:Int}(h:a=0):lN a b=b:=if_pos h
theorem e8{a b:Int}(h:a≠0):lN a b=a:=if_neg h
theorem s9{a b:Int}(h:lN a b=0):a=0/\b=0:=by
 by_cases g:a=0
 ·rw[dZ g]at h;exact⟨g,h⟩
 ·rw[e8 g]at h;exact absurd h g
noncomputable def mS(n:Net)(i:Nat):Int:=lN (iV ((n.flows.map Flow.name).take i) (n.flows.getD i default).name) (lN (dt n (n.flows.getD i default)) (lK (n.flows.getD i default)))
noncomputable def lO(n:Net)(i:Nat):Int:=lN (iV (n.names.take i) (n.names.getD i .empty)) (kz (n.lines.getD i default))
theorem wM(n:Net)(i:Nat)(hi:i<n.flows.length)(hfl:n.flows.length<=10):∃e:Int,e=mS n i/\q0d 82 [n.av,J i] (J e):=by
 unfold mS;obtain⟨f,ef⟩:∃f,f=n.flows.getD i default:=⟨_,rfl⟩;have hfe:∀j:Nat,j<n.flows.length->(n.flows.map Flow.name).getD j .empty=(n.flows.getD j default).name:=λj hj=>by simp[hj]
 have hfi:=hfe i hi;have hml:(n.flows.map Flow.name).length=n.flows.length:=List.length_map _;rw[<-ef]at hfi⊢;obtain⟨bw,hw,pw⟩:=uu f.name;obtain⟨bv,hv,pv⟩:=mG f.con;rcases bw with _|_
 ·rw[nU λh=>(by have:=hw.2 h;cases this),e8 φ];refine opE func82 ntmps82 results82 ?_;refine gvE ?_;conv=>whnf
  refine gvE ?_;conv=>whnf
  refine Side.mk ⟨ω,ω⟩ ?_;conv=>whnf
  refine ao [1,2,5] [2] [] [] [(5,some (.box f.cells))] ⟨⟨rfl,rfl⟩,?_,?_⟩ ?_
  ·skip;all_goals((refine' subP)<;>first|rw[ef];exact q0a|exact sq1)
  ·skip;all_goals exact sq1
  conv=>whnf
  repeat'(first|refine' ah|refine ab pw ?_)
  all_goals try exact ariA
  exact ae ⟨_,rfl,rfl⟩
 ·refine opE func82 ntmps82 results82 ?_;refine gvE ?_;conv=>whnf
  refine gvE ?_;conv=>whnf
  refine Side.mk ⟨ω,ω⟩ ?_;conv=>whnf
  refine ao [1,2,5] [2] [] [] [(5,some (.box f.cells))] ⟨⟨rfl,rfl⟩,?_,?_⟩ ?_
  ·skip;all_goals((refine' subP)<;>first|rw[ef];exact q0a|exact sq1)
  ·skip;all_goals exact sq1
  conv=>whnf
  repeat'(first|refine' ah|refine ab pw ?_)
  all_goals try exact ariA
  refine ag (ι:={j:Nat//j<=i/\∀k,k<j->(n.flows.map Flow.name).getD k .empty≠f.name}) [1,2,5] [2,5] [] ⟨0,ω,ν⟩ (λ⟨j,_⟩=>i-j) (λ⟨j,_⟩=>[(6,J j)]) (λ_=>[]) ?_ ?_
  ·exact⟨⟨rfl,rfl⟩,sq1,sq1⟩
  ·rintro⟨j,hj,hN⟩;conv=>whnf
   by_cases hji:(j:Int)<i
   ·have hfj:=hfe j ω;by_cases he:(n.flows.getD (j:Int).toNat default).name=f.name
    ·have hz:((n.flows.getD (j:Int).toNat default).name.toList==f.name.toList)=true:=by rw[he];exact beq_self_eq_true _
     have hm:f.name∈(n.flows.map Flow.name).take i:=by
      have h8:=wL (l:=n.flows.map Flow.name) ByteArray.empty (ω:j<i) ω;rw[hfj]at h8;exact he▸h8
     rw[k7 (hw.1 rfl) hm,e8 φ];repeat'(first|(refine aC (λhb=>?_) (λhb=>absurd hb (λe=>Bool.noConfusion (hz.symm.trans e)));conv=>whnf)|(refine Λ hji λhb=>?_;conv=>whnf)|refine' ah|fail)
     all_goals try exact ariA
     exact ae ⟨_,rfl,rfl⟩
    ·have hz:=Gv he;repeat'(first|(refine aC (λhb=>absurd hb (λe=>Bool.noConfusion (hz.symm.trans e))) (λhb=>?_);conv=>whnf)|(refine Λ hji λhb=>?_;conv=>whnf)|(exact aN [] ⟨j+1,ω,λk hk=>(ζ k j).elim (hN k) λh9=>by have e9:k=j:=ω;subst e9;rw[hfj];exact he⟩)|refine' ah|fail)
     all_goals try exact ariA
   ·rw[lJ (hw.1 rfl) (s8 (l:=n.flows.map Flow.name) ByteArray.empty ω λk hk=>hN k ω),dZ rfl];by_cases hr0:(f.route.length:Int)=0
    ·rw[show dt n f=5 by unfold dt;rw[if_pos ω],e8 φ];repeat'(first|(refine Λ hr0 λhb=>?_;conv=>whnf)|(refine Υ hji λhb=>?_;conv=>whnf)|refine' ah|fail)
     all_goals try exact ariA
     exact ae ⟨_,rfl,rfl⟩
    by_cases hr4:(f.route.length:Int)>4
    ·rw[show dt n f=3 by unfold dt;rw[if_neg ω,if_pos ω],e8 φ];repeat'(first|(refine Λ hr4 λhb=>?_;conv=>whnf)|(refine Υ hr0 λhb=>?_;conv=>whnf)|(refine Υ hji λhb=>?_;conv=>whnf)|refine' ah|fail)
     all_goals try exact ariA
     exact ae ⟨_,rfl,rfl⟩
    repeat'(first|(refine Υ hr4 λhb=>?_;conv=>whnf)|(refine Υ hr0 λhb=>?_;conv=>whnf)|(refine Υ hji λhb=>?_;conv=>whnf)|refine' ah|fail)
    all_goals try exact ariA
    refine ag (ι:={j:Nat//j<=f.route.length/\∀k,k<j->hopE n f k=0}) [2,5] [2,5] [] ⟨0,ω,ν⟩ (λ⟨j,_⟩=>f.route.length-j) (λ⟨j,_⟩=>[(7,J j)]) (λ_=>[]) ?_ ?_
    ·exact⟨⟨rfl,rfl⟩,sq1,sq1⟩
    ·rintro⟨q,hq,hH⟩;conv=>whnf
     by_cases hql:(q:Int)<f.route.length
     ·obtain⟨x,ex⟩:∃x,x=f.route.getD q 0:=⟨_,rfl⟩;have ex2:f.route.getD (q:Int).toNat 0=x:=by rw[ex];rfl
      have e2:∀{e:Int},e≠0->hopE n f q=e->e=lN (dt n f) (lK f):=λhe h=>by
       have:=uy ω ω hH ω he h;rw[<-this,e8 he]
      have h60:=wE (n:=n) (f:=f) (j:=q);have h2:=yr (n:=n) (f:=f) (j:=q);have h0:=BF (n:=n) (f:=f) (j:=q);rw[<-ex]at h60 h2 h0;by_cases hx:0<=x/\x<n.lines.length
      ·skip;repeat'(first|(refine Λ hql λhb=>?_;conv=>whnf)|refine' ah|fail)
       all_goals try first|exact ariA|(rw[ex2]at *;exfalso;omega)
       refine ag (ι:={m:Nat//m<=q/\∀k,k<m->f.route.getD k 0≠x}) [2,5,7,8] [2,5] [] ⟨0,ω,ν⟩ (λ⟨m,_⟩=>q-m) (λ⟨m,_⟩=>[(9,J m)]) (λ_=>[]) ?_ ?_
       ·exact⟨⟨rfl,rfl⟩,sq1,sq1⟩
       ·rintro⟨m,hm,hM⟩;conv=>whnf
        by_cases hmq:(m:Int)<q
        ·by_cases he:f.route.getD (m:Int).toNat 0=f.route.getD (q:Int).toNat 0
         ·have h60:=e2 φ (h60 hx (by rw[<-ex2,<-he];exact wL 0 (ω:m<q) ω));repeat'(first|(refine Λ he λhb=>?_;conv=>whnf)|(refine Λ hmq λhb=>?_;conv=>whnf)|refine' ah|fail)
          all_goals try exact ariA
          exact ae ⟨_,rfl,h60⟩
         ·skip;repeat'(first|(refine Υ he λhb=>?_;conv=>whnf)|(refine Λ hmq λhb=>?_;conv=>whnf)|(exact aN [] ⟨m+1,ω,λk hk=>(ζ k m).elim (hM k) λh9=>by have e9:k=m:=ω;subst e9;rw[<-ex2];exact he⟩)|refine' ah|fail)
          all_goals try exact ariA
        ·have hnt:x∉f.route.take q:=s8 0 ω λk hk=>hM k ω;by_cases hcl:0<=f.class_/\f.class_<(n.lines.getD x.toNat default).classes
         ·skip;repeat'(first|(refine Υ hmq λhb=>?_;conv=>whnf)|(exact aN [] ⟨q+1,ω,λk hk=>(ζ k q).elim (hH k) λh9=>by have e9:k=q:=ω;subst e9;exact h0 hx hnt hcl⟩)|refine' ah|fail)
          all_goals try first|exact ariA|(rw[ex2]at *;omega)|(rw[ex2]at *;exfalso;omega)
         ·have h2:=e2 φ (h2 (.inr ⟨hnt,hcl⟩));repeat'(first|(refine Υ hmq λhb=>?_;conv=>whnf)|refine' ah|fail)
          all_goals try first|exact ariA|exact ae ⟨_,rfl,h2⟩|(rw[ex2]at *;omega)|(rw[ex2]at *;exfalso;omega)
      ·have h2:=e2 φ (h2 (.inl hx));repeat'(first|(refine Λ hql λhb=>?_;conv=>whnf)|refine' ah|fail)
       all_goals try first|exact ariA|exact ae ⟨_,rfl,h2⟩|(rw[ex2]at *;exfalso;omega)
     ·rw[<-lL ω ω λk hk=>hH k ω,dZ rfl];by_cases hs:1<=f.least/\f.least<=f.most/\f.most<=1500
      ·rcases bv with _|_
       ·skip;repeat'(first|(refine Υ hql λhb=>?_;conv=>whnf)|refine' ah|refine ab pv ?_)
        all_goals try first|exact ariA|exact ae ⟨_,rfl,wH hs hv.symm⟩
       ·have hvl:=iU hv.symm;obtain⟨bf,hf0,pf⟩:=sx f.con hv.symm;by_cases hz:f.con.vals.getD 0 0=0
        ·rcases bf with _|_
         ·have hE:=wJ hs hv.symm hz (Decidable.not_not.1 λh=>by have:=hf0.2 h;cases this);repeat'(first|(refine Υ hql λhb=>?_;conv=>whnf)|refine' ah|refine ab pv ?_|refine ab pf ?_)
          all_goals try first|exact ariA|exact ae ⟨_,rfl,hE⟩|exact absurd hz ‹_›
         ·have hE:=wK hs hv.symm hz (hf0.1 rfl);repeat'(first|(refine Υ hql λhb=>?_;conv=>whnf)|refine' ah|refine ab pv ?_|refine ab pf ?_)
          all_goals try first|exact ariA|exact ae ⟨_,rfl,hE⟩|exact absurd hz ‹_›
        ·have hE:=wI hs hv.symm hz;repeat'(first|(refine Υ hql λhb=>?_;conv=>whnf)|refine' ah|refine ab pv ?_|refine ab pf ?_)
         all_goals try first|exact ariA|exact ae ⟨_,rfl,hE⟩|exact absurd ‹_› hz
      ·have hE:=wG hs;repeat'(first|(refine Υ hql λhb=>?_;conv=>whnf)|refine' ah|fail)
       all_goals try first|exact ariA|exact ae ⟨_,rfl,hE⟩
noncomputable def netE(n:Net):Int:=if(1<=n.lines.length/\n.lines.length<=8)/\n.flows.length<=10 then if n.names.length=n.lines.length then lN (gg (lO n) n.lines.length) (gg (mS n) n.flows.length)else 2 else 3
theorem wN{n:Net}(h:((1<=n.lines.length/\n.lines.length<=8)/\n.flows.length<=10)/\n.names.length=n.lines.length):netE n=lN (gg (lO n) n.lines.length) (gg (mS n) n.flows.length):=by
 unfold netE;rw[if_pos h.1,if_pos h.2]
theorem u5{n:Net}(h:((1<=n.lines.length/\n.lines.length<=8)/\n.flows.length<=10)/\n.names.length=n.lines.length){j:Nat}(hI:∀i,i<j->lO n i=0)(hj:j<n.lines.length){e:Int}(he:e≠0)(hE:lO n j=e):e=netE n:=by
 rw[wN h,k6 hI (by rw[hE];exact he) hj,hE,e8 he]
theorem u6{n:Net}(h:((1<=n.lines.length/\n.lines.length<=8)/\n.flows.length<=10)/\n.names.length=n.lines.length)(hL:∀i,i<n.lines.length->lO n i=0){j:Nat}(hI:∀i,i<j->mS n i=0)(hj:j<n.flows.length){e:Int}(he:e≠0)(hE:mS n j=e):e=netE n:=by
 rw[wN h,dB hL,dZ rfl,k6 hI (by rw[hE];exact he) hj,hE]
theorem sA{n:Net}(h:((1<=n.lines.length/\n.lines.length<=8)/\n.flows.length<=10)/\n.names.length=n.lines.length)(hL:∀i,i<n.lines.length->lO n i=0)(hI:∀i,i<n.flows.length->mS n i=0):0=netE n:=by
 rw[wN h,dB hL,dZ rfl,dB hI]
theorem BG(n:Net):∃e:Int,e=netE n/\q0d 84 [n.av] (J e):=by
 have hfe:∀j:Nat,j<n.flows.length->(n.flows.map Flow.name).getD j .empty=(n.flows.getD j default).name:=λj hj=>by simp[hj]
 by_cases hlim:((1<=n.lines.length/\n.lines.length<=8)/\n.flows.length<=10)/\n.names.length=n.lines.length
 ·obtain⟨⟨⟨hl1,hl2⟩,hl3⟩,hl4⟩:=id hlim;refine opE func84 ntmps84 results84 ?_;repeat'(first|refine' ah|fail)
  all_goals try first|omega|(exfalso;omega)
  refine ag (ι:={j:Nat//j<=n.lines.length/\∀i,i<j->lO n i=0}) [1,3,39,40] [1] [] ⟨0,π _,ν⟩ (λ⟨j,_⟩=>n.lines.length-j) (λ⟨j,_⟩=>[(41,J j)]) (λ⟨j,_⟩=>[(37,some (.map (gV (n.names.take j))))]) ?_ ?_
  ·refine⟨⟨rfl,rfl⟩,?_,?_⟩;all_goals((refine' subP)<;>first|exact ca|exact sq1)
  ·rintro⟨j,hj,hI⟩;conv=>whnf
   by_cases hjl:(j:Int)<n.lines.length
   ·obtain⟨ks,h1,p1⟩:=Ag (n.names.take j) (n.names.getD j .empty);have p2:=uw (n.lines.getD j default);have hlf:lO n j=lN (iV (n.names.take j) (n.names.getD j .empty)) (kz (n.lines.getD j default)):=rfl;have hE:=λ{e:Int}=>u5 hlim hI (ω:j<n.lines.length) (e:=e);by_cases he1:iV (n.names.take j) (n.names.getD j .empty)=0
    ·have hks:=h1 he1;subst hks;rw[dZ he1]at hlf;rw[he1]at p1;by_cases he2:kz (n.lines.getD j default)=0
     ·have hlf:=hlf.trans he2;rw[he2]at p2;repeat'(first|(refine Λ hjl λhb=>?_;conv=>whnf)|(refine' aR [] ⟨j+1,ω,λi hi=>(ζ i j).elim (hI i) λh9=>by have e9:i=j:=ω;subst e9;exact hlf⟩<;>first|exact ca|(show ObLe (.map (gV (n.names.take j++[n.names.getD j .empty]))) (.map (List.map _ (gV (n.names.take (j+1)))));refine ObLe.of_eq ?_;rw[takeS (ω:j<n.names.length) .empty];simp[gV,reV];rfl)|exact sq1)|refine' ah|refine bq p1 ?_|refine ab p2 ?_)
      all_goals try exact ariA
     ·skip;repeat'(first|(refine ϑ he2 λhb=>?_;conv=>whnf)|(refine Λ hjl λhb=>?_;conv=>whnf)|refine' ah|refine bq p1 ?_|refine ab p2 ?_)
      all_goals try exact ariA
      exact ae ⟨_,rfl,hE he2 hlf⟩
    ·rw[e8 he1]at hlf;repeat'(first|(refine ϑ he1 λhb=>?_;conv=>whnf)|(refine Λ hjl λhb=>?_;conv=>whnf)|refine' ah|refine bq p1 ?_)
     all_goals try exact ariA
     exact ae ⟨_,rfl,hE he1 hlf⟩
   ·have hI : ∀i,i<n.lines.length->lO n i=0:=λi hi=>hI i ω;repeat'(first|(refine Υ hjl λhb=>?_;conv=>whnf)|refine' ah|fail)
    all_goals try exact ariA
    refine⟨(ag (ι:={j:Nat//j<=n.flows.length/\∀i,i<j->mS n i=0}) [1,8,64,65] [1] [] ⟨0,π _,ν⟩ (λ⟨j,_⟩=>n.flows.length-j) (λ⟨j,_⟩=>[(66,J j)]) (λ⟨j,_⟩=>[(62,some (.map (gV ((n.flows.map Flow.name).take j))))]) ?_ ?_).good⟩
    ·refine⟨⟨rfl,rfl⟩,?_,?_⟩;all_goals((refine' subP)<;>first|exact ca|exact sq1)
    ·rintro⟨i,hi,hF⟩;conv=>whnf
     by_cases hil:(i:Int)<n.flows.length
     ·have hfi:=hfe i ω;obtain⟨ks,h1,p1⟩:=Ah ((n.flows.map Flow.name).take i) (n.flows.getD i default).name;obtain⟨_,rfl,p2⟩:=EG n (n.flows.getD i default);obtain⟨_,rfl,p3⟩:=Ai (n.flows.getD i default);have hff:mS n i=lN (iV ((n.flows.map Flow.name).take i) (n.flows.getD i default).name) (lN (dt n (n.flows.getD i default)) (lK (n.flows.getD i default))):=rfl;have hE:=λ{e:Int}=>u6 hlim hI hF (ω:i<n.flows.length) (e:=e);by_cases he1:iV ((n.flows.map Flow.name).take i) (n.flows.getD i default).name=0
      ·have hks:=h1 he1;subst hks;rw[dZ he1]at hff;rw[he1]at p1;by_cases he2:dt n (n.flows.getD i default)=0
       ·rw[dZ he2]at hff;rw[he2]at p2;by_cases he3:lK (n.flows.getD i default)=0
        ·have hff:=hff.trans he3;rw[he3]at p3;repeat'(first|(refine Λ hil λhb=>?_;conv=>whnf)|(refine' aR [] ⟨i+1,ω,λk hk=>(ζ k i).elim (hF k) λh9=>by have e9:k=i:=ω;subst e9;exact hff⟩<;>first|exact ca|(show ObLe (.map (gV ((n.flows.map Flow.name).take i++[(n.flows.getD i default).name]))) (.map (List.map _ (gV ((n.flows.map Flow.name).take (i+1)))));refine ObLe.of_eq ?_;rw[takeS (show i<(n.flows.map Flow.name).length by simp;omega) .empty,hfi];simp[gV,reV];rfl)|exact sq1)|refine' ah|refine bq p1 ?_|refine ab p2 ?_|refine ab p3 ?_)
         all_goals try exact ariA
        ·skip;repeat'(first|(refine ϑ he3 λhb=>?_;conv=>whnf)|(refine Λ hil λhb=>?_;conv=>whnf)|refine' ah|refine bq p1 ?_|refine ab p2 ?_|refine ab p3 ?_)
         all_goals try exact ariA
         exact ae ⟨_,rfl,hE he3 hff⟩
       ·rw[e8 he2]at hff;repeat'(first|(refine ϑ he2 λhb=>?_;conv=>whnf)|(refine Λ hil λhb=>?_;conv=>whnf)|refine' ah|refine bq p1 ?_|refine ab p2 ?_)
        all_goals try exact ariA
        exact ae ⟨_,rfl,hE he2 hff⟩
      ·rw[e8 he1]at hff;repeat'(first|(refine ϑ he1 λhb=>?_;conv=>whnf)|(refine Λ hil λhb=>?_;conv=>whnf)|refine' ah|refine bq p1 ?_)
       all_goals try exact ariA
       exact ae ⟨_,rfl,hE he1 hff⟩
     ·skip;repeat'(first|(refine Υ hil λhb=>?_;conv=>whnf)|refine' ah|fail)
      all_goals try exact ariA
      exact ae ⟨0,rfl,sA hlim hI λi hi=>hF i ω⟩
 ·unfold netE;by_cases h1:(1<=n.lines.length/\n.lines.length<=8)/\n.flows.length<=10
  ·rw[if_pos h1,if_neg λh=>hlim ⟨h1,h⟩];refine opE func84 ntmps84 results84 ?_;repeat'(first|refine' ah|fail)
   all_goals first|exact ae ⟨_,rfl,rfl⟩|(exfalso;omega)
  ·rw[if_neg h1];refine opE func84 ntmps84 results84 ?_;repeat'(first|refine' ah|fail)
   all_goals first|exact ae ⟨_,rfl,rfl⟩|(exfalso;omega)
theorem u7(n:Net):∃e:Int,e=netE n/\q0d 48 [n.av] (J e):=by
 by_cases hlim:((1<=n.lines.length/\n.lines.length<=8)/\n.flows.length<=10)/\n.names.length=n.lines.length
 ·obtain⟨⟨⟨hl1,hl2⟩,hl3⟩,hl4⟩:=id hlim;refine opE func48 ntmps48 results48 ?_;repeat'(first|refine' ah|fail)
  all_goals try exact ariB
  refine ag (ι:={i:Nat//i<=n.lines.length/\∀k,k<i->lO n k=0}) [1] [1] [] ⟨0,ω,ν⟩ (λ⟨i,_⟩=>n.lines.length-i) (λ⟨i,_⟩=>[(3,J i)]) (λ_=>[]) ?_ ?_
  ·exact⟨⟨rfl,rfl⟩,sq1,sq1⟩
  ·rintro⟨i,hi,hI⟩;conv=>whnf
   by_cases hlt:(i:Int)<n.lines.length
   ·obtain⟨b,hb0,p1⟩:=uu (n.names.getD (i:Int).toNat .empty);obtain⟨_,rfl,p2⟩:=mF (n.lines.getD (i:Int).toNat default);have hlf:lO n i=lN (iV (n.names.take i) (n.names.getD i .empty)) (kz (n.lines.getD i default)):=rfl;have hE:=λ{e:Int}=>u5 hlim hI (ω:i<n.lines.length) (e:=e);rcases b with _|_
    ·rw[nU λh=>(by have:=hb0.2 h;cases this),e8 φ]at hlf;repeat'(first|(refine Λ hlt λhb=>?_;conv=>whnf)|refine' ah|refine ab p1 ?_)
     all_goals try exact ariA
     exact ae ⟨_,rfl,hE φ hlf⟩
    have hw:WordP (n.names.getD i .empty):=hb0.1 rfl;repeat'(first|(refine Λ hlt λhb=>?_;conv=>whnf)|refine' ah|refine ab p1 ?_)
    all_goals try exact ariA
    refine ag (ι:={m:Nat//m<=i/\∀k,k<m->n.names.getD k .empty≠n.names.getD i .empty}) [1,3] [1] [] ⟨0,ω,ν⟩ (λ⟨m,_⟩=>i-m) (λ⟨m,_⟩=>[(4,J m)]) (λ_=>[]) ?_ ?_
    ·exact⟨⟨rfl,rfl⟩,sq1,sq1⟩
    ·rintro⟨m,hm,hM⟩;conv=>whnf
     by_cases hmi:(m:Int)<i
     ·by_cases he:n.names.getD (m:Int).toNat .empty=n.names.getD (i:Int).toNat .empty
      ·have hz:((n.names.getD (m:Int).toNat .empty).toList==(n.names.getD (i:Int).toNat .empty).toList)=true:=by rw[he];exact beq_self_eq_true _
       have hm:n.names.getD i .empty∈n.names.take i:=by
        have h8:=wL (l:=n.names) ByteArray.empty (ω:m<i) ω;exact he▸h8
       rw[k7 hw hm,e8 φ]at hlf;repeat'(first|(refine aC (λhb=>?_) (λhb=>absurd hb (λe=>Bool.noConfusion (hz.symm.trans e)));conv=>whnf)|(refine Λ hmi λhb=>?_;conv=>whnf)|refine' ah|fail)
       all_goals try exact ariA
       exact ae ⟨_,rfl,hE φ hlf⟩
      ·have hz:=Gv he;repeat'(first|(refine aC (λhb=>absurd hb (λe=>Bool.noConfusion (hz.symm.trans e))) (λhb=>?_);conv=>whnf)|(refine Λ hmi λhb=>?_;conv=>whnf)|(exact aN [] ⟨m+1,ω,λk hk=>(ζ k m).elim (hM k) λh9=>by have e9:k=m:=ω;subst e9;exact he⟩)|refine' ah|fail)
       all_goals try exact ariA
     ·rw[lJ hw (s8 (l:=n.names) ByteArray.empty ω λk hk=>hM k ω),dZ rfl]at hlf;by_cases he2:kz (n.lines.getD (i:Int).toNat default)=0
      ·have hlf:=hlf.trans he2;rw[he2]at p2;repeat'(first|(refine Υ hmi λhb=>?_;conv=>whnf)|(exact aN [] ⟨i+1,ω,λk hk=>(ζ k i).elim (hI k) λh9=>by have e9:k=i:=ω;subst e9;exact hlf⟩)|refine' ah|refine ab p2 ?_)
       all_goals try exact ariA
      ·skip;repeat'(first|(refine ϑ he2 λhb=>?_;conv=>whnf)|(refine Υ hmi λhb=>?_;conv=>whnf)|refine' ah|refine ab p2 ?_)
       all_goals try exact ariA
       exact ae ⟨_,rfl,hE he2 hlf⟩
   ·have hI:∀i,i<n.lines.length->lO n i=0:=λi hi=>hI i ω;repeat'(first|(refine Υ hlt λhb=>?_;conv=>whnf)|refine' ah|fail)
    all_goals try exact ariA
    refine ag (ι:={i:Nat//i<=n.flows.length/\∀k,k<i->mS n k=0}) [1] [1] [] ⟨0,ω,ν⟩ (λ⟨i,_⟩=>n.flows.length-i) (λ⟨i,_⟩=>[(6,J i)]) (λ_=>[]) ?_ ?_
    ·exact⟨⟨rfl,rfl⟩,sq1,sq1⟩
    ·rintro⟨i,hi,hF⟩;conv=>whnf
     by_cases hfi:(i:Int)<n.flows.length
     ·obtain⟨_,rfl,p3⟩:=wM n i ω hl3;by_cases he3:mS n i=0
      ·rw[he3]at p3;repeat'(first|(refine Λ hfi λhb=>?_;conv=>whnf)|(exact aN [] ⟨i+1,ω,λk hk=>(ζ k i).elim (hF k) λh9=>by have e9:k=i:=ω;subst e9;exact he3⟩)|refine' ah|refine ab p3 ?_)
       all_goals try exact ariA
      ·skip;repeat'(first|(refine ϑ he3 λhb=>?_;conv=>whnf)|(refine Λ hfi λhb=>?_;conv=>whnf)|refine' ah|refine ab p3 ?_)
       all_goals try exact ariA
       exact ae ⟨_,rfl,u6 hlim hI hF ω he3 rfl⟩
     ·skip;repeat'(first|(refine Υ hfi λhb=>?_;conv=>whnf)|refine' ah|fail)
      all_goals try exact ariA
      exact ae ⟨0,rfl,sA hlim hI λi hi=>hF i ω⟩
 ·unfold netE;by_cases h1:(1<=n.lines.length/\n.lines.length<=8)/\n.flows.length<=10
  ·rw[if_pos h1,if_neg λh=>hlim ⟨h1,h⟩];refine opE func48 ntmps48 results48 ?_;repeat'(first|refine' ah|fail)
   all_goals first|exact ae ⟨_,rfl,rfl⟩|(exfalso;omega)
  ·rw[if_neg h1];refine opE func48 ntmps48 results48 ?_;repeat'(first|refine' ah|fail)
   all_goals first|exact ae ⟨_,rfl,rfl⟩|(exfalso;omega)
theorem sB{α:Type}{l:List α}(d:α)(h:∀j,j<l.length->l.getD j d∉l.take j):l.Nodup:=by
 refine List.pairwise_iff_getElem.2 λi j hi hj hij e=>?_;have:=h j hj;rw[ψ,β hj]at this;refine this ?_;show l[j]∈_;rw[<-e];exact List.mem_iff_getElem.2 ⟨i,by simp;omega,by simp⟩
theorem j3{α:Type}{l:List α}{x:α}(d:α)(h:x∈l):∃j,j<l.length/\l.getD j d=x:=by
 obtain⟨j,hj,e⟩:=List.mem_iff_getElem.1 h;exact⟨j,hj,by rw[ψ,β hj];exact e⟩
theorem nV{α:Type}{l:List α}(d:α){j:Nat}(h:j<l.length):l.getD j d∈l:=by
 rw[ψ,β h];exact List.getElem_mem _
theorem iv{α:Type}{l:List α}(h:l.Nodup)(d:α){j:Nat}(hj:j<l.length):l.getD j d∉l.take j:=by
 intro hm;obtain⟨i,hi,he⟩:=List.mem_iff_getElem.1 hm;rw[ψ,β hj]at he;simp only[List.length_take]at hi;rw[List.getElem_take]at he;have hi2:i<j:=ω;exact(List.pairwise_iff_getElem.1 h) i j ω hj hi2 he
theorem GV{f:Flow}(h:lK f=0):(1<=f.least/\f.least<=f.most/\f.most<=1500)/\f.con.valid=true/\f.con.vals.getD 0 0=0/\f.con.vals.getD (f.con.vals.length-1) 0≠inf:=by
 by_cases hs:1<=f.least/\f.least<=f.most/\f.most<=1500
 ·cases hv:f.con.valid with
  |false=>rw[<-wH hs hv]at h;cases h
  |true=>
   by_cases hz:f.con.vals.getD 0 0=0
   ·refine⟨hs,rfl,hz,λhi=>?_⟩;rw[<-wJ hs hv hz hi]at h;cases h
   ·rw[<-wI hs hv hz]at h;cases h
 ·rw[<-wG hs]at h;cases h
theorem flow_ok{n:Net}{f:Flow}(h1:dt n f=0)(h2:lK f=0):FlowOk n.lines f:=by
 unfold dt at h1;by_cases hr:f.route.length=0
 ·rw[if_pos hr]at h1;cases h1
 rw[if_neg hr]at h1;by_cases h4:4<f.route.length
 ·rw[if_pos h4]at h1;cases h1
 rw[if_neg h4]at h1;have hh:=λj hj=>hopE_z (j2 h1 j hj);obtain⟨t1,t2,t3,t4⟩:=GV h2;refine⟨⟨ω,ω⟩,λx hx=>?_,sB 0 λi hi=>(hh i hi).2.1,(hh 0 ω).2.2.1,λx hx=>?_,t1,t2,iU t2,t3,t4⟩
 ·obtain⟨i,hi,rfl⟩:=j3 0 hx;exact(hh i hi).1
 ·obtain⟨i,hi,rfl⟩:=j3 0 hx;exact(hh i hi).2.2.2
theorem gW(n:Net):netE n=0↔NetOk n:=by
 have hfe:∀j:Nat,j<n.flows.length->(n.flows.map Flow.name).getD j .empty=(n.flows.getD j default).name:=λj hj=>by simp[hj]
 have hml:(n.flows.map Flow.name).length=n.flows.length:=List.length_map _;constructor
 ·intro h;unfold netE at h;by_cases h1:(1<=n.lines.length/\n.lines.length<=8)/\n.flows.length<=10
  ·rw[if_pos h1]at h;by_cases h2:n.names.length=n.lines.length
   ·rw[if_pos h2]at h;obtain⟨a,b⟩:=s9 h;have hl:=λj hj=>s9 (j2 a j hj);have hf:=λj hj=>s9 (j2 b j hj);refine⟨h1.1,h1.2,h2,λx hx=>?_,sB .empty λj hj=>(sy (hl j ω).1).2,λl hl'=>?_,λf hf'=>?_,sB .empty λj hj=>?_,λf hf'=>?_⟩
    ·obtain⟨j,hj,rfl⟩:=j3 .empty hx;exact(sy (hl j ω).1).1
    ·obtain⟨j,hj,rfl⟩:=j3 default hl';exact(j1 _).1 (hl j hj).2
    ·obtain⟨j,hj,rfl⟩:=j3 default hf';exact(sy (hf j hj).1).1
    ·rw[hfe j ω];exact(sy (hf j ω).1).2
    ·obtain⟨j,hj,rfl⟩:=j3 default hf';obtain⟨c,d⟩:=s9 (hf j hj).2;exact flow_ok c d
   ·rw[if_neg h2]at h;cases h
  ·rw[if_neg h1]at h;cases h
 ·intro h;refine(sA ⟨⟨h.len,h.flen⟩,h.nlen⟩ (λi hi=>?_) λi hi=>?_).symm
  ·have hn:=h.nlen;unfold lO;rw[lJ (h.word _ (nV _ ω)) (iv h.nodup _ ω),dZ rfl];exact(j1 _).2 (h.line _ (nV _ hi))
  ·obtain⟨f,ef⟩:∃f,f=n.flows.getD i default:=⟨_,rfl⟩;have hm:f∈n.flows:=by rw[ef];exact nV _ hi
   have hfo:=h.flow f hm;have hnt:=iv h.fnodup .empty (j:=i) ω;rw[hfe i hi]at hnt;unfold mS;rw[<-ef]at hnt⊢;rw[lJ (h.fword f hm) hnt,dZ rfl,<-lL (by have:=hfo.ne;omega) hfo.ne.2 λj hj=>BF (hfo.lines _ (nV _ hj)) (iv hfo.nodup _ hj) ⟨hfo.cls,hfo.cls2 _ (nV _ hj)⟩,dZ rfl,<-wK hfo.sizes hfo.valid hfo.zero hfo.fin]
theorem u9(n:Net):q0d 84 [n.av] (J (netE n)):=by
 obtain⟨_,rfl,p⟩:=BG n;exact p
theorem nW(n:Net):q0d 48 [n.av] (J (netE n)):=by
 obtain⟨_,rfl,p⟩:=u7 n;exact p
theorem nX(n:Net)(h:NetOk n):q0d 84 [n.av] (J 0):=(gW n).2 h▸u9 n
theorem wO(l:Line)(h:LineOk l):q0d 151 [l.av] (J 0):=(j1 l).2 h▸uw l
theorem sC(l:Line)(h:LineOk l):∃e:Int,e=0/\q0d 81 [l.av] (J e):=by
 obtain⟨_,rfl,p⟩:=mF l;exact⟨_,(j1 l).2 h,p⟩
structure ShapeOk(n:Net)(d:List (List Int)):Prop where
 len:d.length=n.lines.length
 row:∀i:Nat,i<n.lines.length->((d.getD i []).length:Int)=(n.lines.getD i default).classes
 val:∀i j:Nat,i<n.lines.length->j<(d.getD i []).length-> -1<=(d.getD i []).getD j 0/\(d.getD i []).getD j 0<=400
theorem cK(n:Net)(d:List (List Int))(h:NetOk n)(hd:ShapeOk n d):q0d 52 [n.av,aH d] (.bool true):=by
 have hlen:=h.len;have hdl:=hd.len;have hrow:=hd.row;have hval:=hd.val;have hcl:∀j:Nat,j<n.lines.length->(n.lines.getD j default).classes<=6:=λj hj=>(h.line _ (by simp[hj])).cls.2;refine opG func52 ntmps52 results52 λ_ _ _=>?_;repeat'(first|refine' ak|refine ab (nX n h) ?_)
 all_goals try omega
 refine⟨(aI (ι:={j:Nat//j<=n.lines.length}) [2,20,21] [2] [] ⟨0,π _⟩ (λj=>n.lines.length-j.1) (λj=>[(22,J j.1)]) (λj=>[]) ?_ ?_).good⟩
 ·refine⟨⟨rfl,rfl⟩,?_,?_⟩;all_goals try refine' subB
 ·intro j;conv=>whnf
  obtain⟨j,hj⟩:=j;repeat(refine gv ?_;conv=>whnf)
  refine aa (λhb=>?_) (λhb=>?_)
  ·have hlt:j<n.lines.length:=by dsimp only at hb;omega
   have h1:=hrow j hlt;have h2:=hval j;have h3:=hcl j hlt;conv=>whnf
   repeat'(first|refine' ak|fail)
   all_goals try dsimp only at hb
   all_goals try simp only[χ]at hb
   all_goals try first|omega|(dsimp only;omega)|(dsimp only;simp only[χ];omega)
   refine⟨(aI (ι:={c:Nat//c<=(d.getD j []).length}) [2,20,21,22,36,37] [2] [] ⟨0,π _⟩ (λc=>(d.getD j []).length-c.1) (λc=>[(38,J c.1)]) (λc=>[]) ?_ ?_).good⟩
   ·refine⟨⟨rfl,rfl⟩,?_,?_⟩;all_goals try refine' subB
   ·intro c;conv=>whnf
    obtain⟨c,hcc⟩:=c;repeat(refine gv ?_;conv=>whnf)
    refine aa (λhb=>?_) (λhb=>?_)
    ·have hlc:c<(d.getD j []).length:=by dsimp only at hb;simp only[χ]at hb;omega
     have h4:=h2 c hlt hlc;conv=>whnf
     repeat'(first|refine' ak|(refine aJ [] ⟨c+1,?_⟩ ⟨⟨rfl,rfl⟩,?_,?_⟩ ?_))
     all_goals try dsimp only at hb
     all_goals try simp only[χ]at hb
     all_goals try first|omega|(dsimp only;omega)|(dsimp only;unfold aj;omega)|(dsimp only;simp only[χ];omega)
     ·all_goals try refine' subB
     ·all_goals try refine' subB
    ·conv=>whnf
     repeat'(first|refine' ak|(refine aJ [] ⟨j+1,?_⟩ ⟨⟨rfl,rfl⟩,?_,?_⟩ ?_))
     all_goals try first|omega|(dsimp only;omega)|(dsimp only;unfold aj;omega)
     ·all_goals try refine' subB
     ·all_goals try refine' subB
  ·conv=>whnf
   repeat'(first|refine' ak|fail)
   exact Ψ
theorem cr{l:List Int}{j:Nat}(h:j<l.length):l.drop j=l.getD j 0::l.drop (j+1):=by
 rw[List.drop_eq_getElem_cons h];simp[h]
def b6(x:Int):List Int->Int->Int
 |[],_=>-1
 |y::l,k=>if y=x then k else b6 x l (k+1)
theorem sD(n:Net)(i:Nat)(x:Int)(hi:i<n.flows.length)(_hl:n.flows.length<=1000)(hr:(n.flows.getD i default).route.length<=1000):q0d 139 [n.av,J i,J x] (J (b6 x (n.flows.getD i default).route 0)):=by
 obtain⟨rt,hrt⟩:∃rt,rt=(n.flows.getD i default).route:=⟨_,rfl⟩;rw[<-hrt]at hr⊢;refine opG func139 ntmps139 results139 λ_ _ _=>?_;repeat'(first|refine' ak|fail)
 all_goals try omega
 refine⟨(aI (ι:={j:Nat//j<=rt.length/\b6 x (rt.drop j) j=b6 x rt 0}) [1,2,3] [3] [] ⟨0,π _,rfl⟩ (λj=>rt.length-j.1) (λj=>[(7,J j.1)]) (λj=>[]) ?_ ?_).good⟩
 ·refine⟨⟨rfl,rfl⟩,?_,?_⟩;all_goals try refine' subB
 ·intro j;conv=>whnf
  obtain⟨j,hj,hjv⟩:=j;have hjd:j<rt.length->(if rt.getD j 0=x then(j:Int)else b6 x (rt.drop (j+1)) (j+1))=b6 x rt 0:=λh=>by
   rw[cr h]at hjv;exact hjv
  repeat'(first|refine' ak|(refine aJ [] ⟨j+1,?_,?_⟩ ⟨⟨rfl,rfl⟩,?_,?_⟩ ?_))
  all_goals try dsimp only at *
  all_goals try simp only[χ,<-hrt]at *
  all_goals try exact ariA
  ·have e:=hjd ω;rw[if_pos hb]at e;rw[<-e];exact Ψ
  ·have e:=hjd ω;rw[if_neg hb]at e;exact e
  ·all_goals try refine' subB
  ·all_goals try refine' subB
  ·have e:rt.drop j=[]:=List.drop_eq_nil_of_le ω;rw[e]at hjv;rw[<-hjv];exact Ψ
def dAt(d:List (List Int))(c x:Int):Int:=(d.getD x.toNat []).getD c.toNat 0
def ct(δ:Int->Int):List Int->Int->Option Int
 |[],s=>some s
 |x::r,s=>if δ x<0 then none else ct δ r (s+δ x)
def uA(d:List (List Int))(f:Flow):Option Int:=ct (dAt d f.class_) f.route (f.route.length-1)
def Aj(o:Option Int):AV:=.tup [J (o.getD 0),.bool o.isSome]
theorem EH(n:Net)(d:List (List Int))(h:NetOk n)(hd:ShapeOk n d)(i:Nat)(hi:i<n.flows.length) :
  q0d 134 [n.av,aH d,J i] (Aj (uA d (n.flows.getD i default))):=by
 obtain⟨f,ef⟩:∃f,f=n.flows.getD i default:=⟨_,rfl⟩;have hfo:FlowOk n.lines f:=by rw[ef];exact h.flow _ (by simp[hi])
 have hfl:=h.flen;have hll:=h.len;have hne:=hfo.ne;have hc0:=hfo.cls;have hdl:=hd.len;obtain⟨rt,ert⟩:∃rt,rt=f.route:=⟨_,rfl⟩;obtain⟨c,ec⟩:∃c,c=f.class_:=⟨_,rfl⟩;have hall:∀j:Nat,j<rt.length->(0<=rt.getD j 0/\rt.getD j 0<d.length)/\(0<=c/\c<((d.getD (rt.getD j 0).toNat []).length:Int))/\-1<=dAt d c (rt.getD j 0)/\dAt d c (rt.getD j 0)<=400:=λj hj=>by
  have hm:rt.getD j 0∈f.route:=by rw[<-ert];simp[hj]
  have h1:=hfo.lines _ hm;have h2:=hfo.cls2 _ hm;have h3:=hd.row (rt.getD j 0).toNat ω;have h4:=hd.val (rt.getD j 0).toNat c.toNat ω (by rw[ec];omega);refine⟨⟨h1.1,ω⟩,⟨ω,ω⟩,h4.1,h4.2⟩
 rw[show uA d (n.flows.getD i default)=ct (dAt d c) rt (rt.length-1) by rw[uA,<-ef,<-ec,<-ert]];rw[<-ert]at hne;refine opG func134 ntmps134 results134 λ_ _ _=>?_;repeat'(first|refine' ak|refine ab (cK n d h hd) ?_)
 all_goals try omega
 ·refine⟨?_⟩;refine aL [1,8] [] [] [(37,ints rt),(38,J rt.length),(9,J (rt.length-1)),(39,J 0)] [(8,some (.box f.cells))] ⟨⟨rfl,rfl⟩,?_,?_⟩ ?_
  ·rw[ert,ef];all_goals try refine' subB
  ·rw[ert,ef];all_goals try refine' subB
  conv=>whnf
  refine(aI (ι:={p:Nat×Int//p.1<=rt.length/\0<=p.2/\p.2<=3+400*p.1/\ct (dAt d c) (rt.drop p.1) p.2=ct (dAt d c) rt (rt.length-1)}) [1,8,37,38] [8] [] ⟨(0,(rt.length:Int)-1),π _,κ,κ,rfl⟩ (λj=>rt.length-j.1.1) (λj=>[(9,J j.1.2),(39,J j.1.1)]) (λj=>[]) ?_ ?_).good
  ·refine⟨⟨rfl,rfl⟩,?_,?_⟩;all_goals try refine' subB
  ·intro j;conv=>whnf
   obtain⟨⟨j,s⟩,hj,hs0,hs1,hjv⟩:=j;repeat(refine gv ?_;conv=>whnf)
   refine aa (λhb=>?_) (λhb=>?_)
   ·have hlt:j<rt.length:=by dsimp only at hb;omega
    have hA:=hall j hlt;have hjd:=cr hlt;dsimp only at hjv hs0 hs1;rw[hjd,ct]at hjv;have eδ:(d.getD (rt.getD j 0).toNat []).getD f.class_.toNat 0=dAt d c (rt.getD j 0):=by rw[ec];rfl
    conv=>whnf
    repeat'(first|refine' ak|(refine aJ [] ⟨(j+1,s+dAt d c (rt.getD j 0)),?_,?_,?_,?_⟩ ⟨⟨rfl,rfl⟩,?_,?_⟩ ?_))
    all_goals dsimp only at *
    all_goals simp only[χ,eδ]at *
    all_goals try exact ariA
    all_goals try(rw[if_neg hb]at hjv;exact hjv)
    all_goals try(rw[if_pos hb]at hjv;rw[<-hjv];exact Ψ)
    ·all_goals try refine' subB
    ·all_goals try refine' subB
   ·conv=>whnf
    repeat'(first|refine' ak|fail)
    have e:rt.drop j=[]:=List.drop_eq_nil_of_le (by dsimp only at hb;omega);dsimp only at hjv;rw[e,ct]at hjv;dsimp only;rw[<-hjv];exact Ψ
 ·rw[χ,<-ef,<-ert];unfold aj;omega
theorem iw(i:Nat):qK (ky i):=qD i
theorem k8(i:Nat):qK (cT i):=qE i
theorem jG:∀n,∀x∈bA n,qK x
 |0,_,h=>by cases h
 |n+1,x,h=>by
  rcases List.mem_append.1 h with h|h
  ·exact jG n x h
  ·rw[List.mem_singleton.1 h];exact iw n
theorem nY{n:Nat}(h:n<=4):(bA n).Nodup:=by
 rcases(ω:n=0\/n=1\/n=2\/n=3\/n=4)with rfl|rfl|rfl|rfl|rfl<;>decide
def iW:Nat->List ByteArray
 |0=>[]
 |n+1=>iW n++[cT n]
theorem nZ{n:Nat}(h:n<=5):(iW n).Nodup:=by
 rcases(ω:n=0\/n=1\/n=2\/n=3\/n=4\/n=5)with rfl|rfl|rfl|rfl|rfl|rfl<;>decide
theorem mY{P:Int->Prop}{l:List Int}{f:Rd->Int×Rd}(hl:∀x∈l,P x)(hf:∀s,P (f s).1):∀(n:Nat) (s:Rd),∀x∈(Rd.many l f n s).1,P x
 |0,_,x,h=>hl x h
 |n+1,s,x,h=>by
  rcases List.mem_append.1 h with h|h
  ·exact mY hl hf n s x h
  ·rw[List.mem_singleton.1 h];exact hf _
theorem BH:∀(n:Nat),∀x∈upto n,0<=x/\x<n
 |0,_,h=>by cases h
 |n+1,x,h=>by
  rcases List.mem_append.1 h with h|h
  ·have:=BH n x h;omega
  ·rw[List.mem_singleton.1 h];omega
theorem uB(s:Rd){cap classes:Int}(hc:1<=cap/\cap<=4000)(h:1<=classes/\classes<=6):LineOk (s.port2 cap classes).1/\(s.port2 cap classes).1.classes=classes:=by
 have h3:=mod_lt (x:=(s.n 4).2.raw.1) (n:=3) ω;unfold Rd.port2;dsimp only;split
 ·exact⟨⟨hc,h,.inl ⟨.inr rfl,rfl,rfl⟩⟩,rfl⟩
 ·split
  ·refine⟨⟨hc,h,.inr (.inl ⟨rfl,?_,?_,rfl⟩)⟩,rfl⟩
   ·show classes=((Rd.many [] _ _ _).1.length:Int);rw[Rd.many_len];show classes=((0+classes.toNat:Nat):Int);omega
   ·refine mY (P:=λx=>1<=x/\x<=20) (l:=[]) (λ_ h=>by cases h) (λs=>?_) _ _;have:1<=(s.range 1 3).1/\(s.range 1 3).1<=3:=bP rfl ω;omega
  ·split
   ·refine⟨⟨hc,h,.inr (.inr (.inl ⟨rfl,?_,?_,rfl⟩))⟩,rfl⟩
    ·show classes=((Rd.many [] _ _ _).1.length:Int);rw[Rd.many_len];show classes=((0+classes.toNat:Nat):Int);omega
    ·refine mY (P:=λx=>1<=x/\x<=6000) (l:=[]) (λ_ h=>by cases h) (λs=>?_) _ _;have:8<=(s.range 8 20).1/\(s.range 8 20).1<=20:=bP rfl ω;omega
   ·refine⟨⟨hc,h,.inr (.inr (.inr ⟨rfl,rfl,?_,?_,?_⟩))⟩,rfl⟩
    ·show 1<=(Rd.many _ _ _ _).1.length;rw[Rd.many_len,kw];omega
    ·show(Rd.many _ _ _ _).1.length<=40;rw[Rd.many_len,kw];show _+(mod (s.n 4).2.raw.1 3).toNat<=40;omega
    ·refine mY (P:=λx=>-1<=x/\x<=classes-1) (λx hx=>?_) (λs=>?_) _ _
     ·have:=BH _ x hx;omega
     ·exact bP rfl ω
theorem EI(s:Rd){classes:Int}(h:1<=classes/\classes<=6):LineOk (s.port classes).1/\(s.port classes).1.classes=classes:=by
 have hr:4<=(s.range 4 24).1/\(s.range 4 24).1<=24:=bP rfl ω;have hc:1<=(s.range 4 24).1/\(s.range 4 24).1<=4000:=ω;unfold Rd.port;split
 ·split
  ·exact⟨⟨hc,h,.inl ⟨.inl rfl,rfl,rfl⟩⟩,rfl⟩
  ·exact uB _ hc h
 ·exact uB _ hc h
theorem oa{k:Int}(h:1<=k/\k<=6):∀(n:Nat) (s:Rd),∀l∈(Rd.lines k n s).1,LineOk l/\l.classes=k
 |0,_,_,h=>by cases h
 |n+1,s,l,hl=>by
  rcases List.mem_append.1 hl with h'|h'
  ·exact oa h n s l h'
  ·rw[List.mem_singleton.1 h'];exact EI _ h
def k9(n:Int)(l:List Int):Bool:=decide (1<=l.length/\l.length<=4)&&l.all (λx=>decide (0<=x/\x<n))&&decide l.Nodup
theorem pX{n:Int}{l:List Int}(h:k9 n l=true):(1<=l.length/\l.length<=4)/\(∀x∈l,0<=x/\x<n)/\l.Nodup:=by
 simp only[k9,Bool.and_eq_true,decide_eq_true_eq,List.all_eq_true]at h;exact⟨h.1.1,h.1.2,h.2⟩
def yu(n:Nat):Bool:=(List.range n).all λw=>[1,(n:Int)-1].all λt=>(List.range (min 3 n)).all λh=>k9 n (ir (hops w t n (h+1)).1)
theorem BI{n:Nat}(h0:1<=n)(h1:n<=4):yu n=true:=by
 rcases(ω:n=1\/n=2\/n=3\/n=4)with rfl|rfl|rfl|rfl<;>kernel_rfl
theorem EJ{n:Nat}(h0:1<=n)(h1:n<=4){w t h:Int}(hw:0<=w/\w<n)(ht:t∈[1,(n:Int)-1])(hh:1<=h/\h<=min 3 (n:Int)):k9 n (ir (hops w t n h.toNat).1)=true:=by
 have h2:=BI h0 h1;simp only[yu,List.all_eq_true]at h2;have h3:=h2 w.toNat (List.mem_range.2 ω) t ht (h.toNat-1) (List.mem_range.2 ω);rw[(ω:((w.toNat:Nat):Int)=w),(ω:h.toNat-1+1=h.toNat)]at h3;exact h3
theorem yv{b:Int}(h:b<=1073741824):∀n:Nat,runs b (List.replicate n b)=some b
 |0=>rfl
 |n+1=>by
  rw[List.replicate_succ,runs,if_neg ω];exact yv h n
theorem yw{b:Int}{n i:Nat}(h:i<n):(List.replicate n b).getD i 0=b:=by
 simp[h]
structure ConOk(c:Curve):Prop where
 valid:c.valid=true
 len:1<=c.vals.length/\c.vals.length<=400
 zero:c.vals.getD 0 0=0
 fin:c.vals.getD (c.vals.length-1) 0≠inf
theorem con_ok{a b c:Int}(ha:0<=a/\a<=1000)(hb:1<=b/\b<=100)(hc:0<=c/\c<=1000):ConOk ⟨0::List.replicate b.toNat a,b,c⟩:=by
 obtain⟨p,rfl⟩:∃p:Nat,b=p:=⟨b.toNat,ω⟩;have e1:((0:Int)::List.replicate p a).length=p+1:=by simp
 obtain⟨q,rfl⟩:∃q,p=q+1:=⟨p-1,ω⟩;have e2:((0:Int)::List.replicate (q+1) a).getD (q+1) 0=a:=yw (b:=a) (n:=q+1) (i:=q) ω;have e3:((0:Int)::List.replicate (q+1) a).getD 1 0=a:=yw (b:=a) (n:=q+1) (i:=0) ω;refine⟨?_,?_,rfl,?_⟩
 ·have er:runs 0 ((0:Int)::List.replicate (q+1) a)=some a:=by
   rw[runs,if_neg ω,List.replicate_succ,runs,if_neg ω];exact yv ω q
  unfold Curve.valid;dsimp only;rw[χ,e1,er,if_neg ω];dsimp only;rw[if_neg (show¬a=inf by unfold inf;omega),(ω:(((q+1+1:Nat):Int)-((q+1:Nat):Int)).toNat=1),e3];exact decide_eq_true ω
 ·dsimp only;rw[χ,e1];omega
 ·dsimp only;rw[χ,e1,show q+1+1-1=q+1 from rfl,e2];unfold inf;omega
theorem uC(s:Rd):ConOk s.contract.1:=by
 have h1:4<=(s.range 4 16).1/\(s.range 4 16).1<=16:=bP rfl ω;have h2:=mW (l:=[1,2,3,4,6,12]) η (s.range 4 16).2;have h3:0<=(((s.range 4 16).2.pick [1,2,3,4,6,12]).2.n 4).1/\(((s.range 4 16).2.pick [1,2,3,4,6,12]).2.n 4).1<4:=n_in rfl ω;simp only[List.mem_cons,List.not_mem_nil,or_false]at h2;exact con_ok ω ω ω
theorem EK(s:Rd){ls:List Line}{n:Nat}(hn:ls.length=n)(h0:1<=n)(h1:n<=4)(name:ByteArray){k:Int}(hk:1<=k)(hcl:∀i:Nat,i<n->(ls.getD i default).classes=k):FlowOk ls (s.flow n name k).1/\(s.flow n name k).1.name=name:=by
 obtain⟨c,s1,e1⟩:∃c s1,s.n k=(c,s1):=⟨_,_,rfl⟩;obtain⟨q,s2,e2⟩:∃k s2,s1.contract=(k,s2):=⟨_,_,rfl⟩;obtain⟨a,s3,e3⟩:∃a s3,s2.range 1 3=(a,s3):=⟨_,_,rfl⟩;obtain⟨b,s4,e4⟩:∃b s4,s3.n 5=(b,s4):=⟨_,_,rfl⟩;obtain⟨w,s5,e5⟩:∃w s5,s4.n n=(w,s5):=⟨_,_,rfl⟩;obtain⟨t,s6,e6⟩:∃t s6,s5.pick [1,(n:Int)-1]=(t,s6):=⟨_,_,rfl⟩;obtain⟨d,s7,e7⟩:∃d s7,s6.range 1 (min 3 (n:Int))=(d,s7):=⟨_,_,rfl⟩;have m1:=n_in e1 ω;have m2:=uC s1;have m3:=bP e3 ω;have m4:=n_in e4 ω;have m5:=n_in e5 ω;have m6:=mW (l:=[1,(n:Int)-1]) η s5;have m7:=bP e7 ω;rw[e2]at m2;rw[e6]at m6;have hr:=pX (EJ h0 h1 m5 m6 m7);have ef:s.flow n name k=(⟨name,ir (hops w t n d.toNat).1,c,a,a+b,q⟩,s7):=by simp only[Rd.flow,e1,e2,e3,e4,e5,e6,e7]
 rw[ef];refine⟨⟨hr.1,λx hx=>?_,hr.2.2,m1.1,λx hx=>?_,⟨?_,?_,?_⟩,m2.valid,m2.len,m2.zero,m2.fin⟩,rfl⟩
 ·have:=hr.2.1 x hx;omega
 ·have:=hr.2.1 x hx;rw[hcl x.toNat ω];exact m1.2
 ·exact m3.1
 ·dsimp only;omega
 ·dsimp only;omega
theorem oc{ls:List Line}{n:Nat}(hn:ls.length=n)(h0:1<=n)(h1:n<=4){k:Int}(hk:1<=k)(hcl:∀i:Nat,i<n->(ls.getD i default).classes=k):∀(m:Nat) (s:Rd),
  (∀f∈(Rd.flows n k m s).1,FlowOk ls f/\qK f.name)/\(Rd.flows n k m s).1.map Flow.name=iW m
 |0,_=>⟨λ_ h=>(by cases h),rfl⟩
 |m+1,s=>by
  have ih:=oc hn h0 h1 hk hcl m s;have hf:=EK (Rd.flows n k m s).2 hn h0 h1 (cT m) hk hcl;refine⟨λf hm=>?_,?_⟩
  ·rcases List.mem_append.1 hm with h'|h'
   ·exact ih.1 f h'
   ·rw[List.mem_singleton.1 h'];refine⟨hf.1,?_⟩;rw[hf.2];exact k8 m
  ·show List.map Flow.name (_++[_])=iW m++[cT m];rw[List.map_append,ih.2,List.map_singleton,hf.2]
theorem net_ok(s:Rd)(lines flows:Int)(h0:1<=lines)(h1:lines<=4)(h2:0<=flows)(h3:flows<=5):NetOk (s.net lines flows).1:=by
 obtain⟨k,s1,e1⟩:∃k s1,s.range 1 2=(k,s1):=⟨_,_,rfl⟩;obtain⟨c,s2,e2⟩:∃c s2,s1.range 1 lines=(c,s2):=⟨_,_,rfl⟩;obtain⟨l,s3,e3⟩:∃l s3,Rd.lines k c.toNat s2=(l,s3):=⟨_,_,rfl⟩;obtain⟨e,s4,e4⟩:∃e s4,s3.range 0 flows=(e,s4):=⟨_,_,rfl⟩;have m1:=bP e1 ω;have m2:=bP e2 ω;have m4:=bP e4 ω;have er:s.net lines flows=(⟨bA c.toNat,l,(Rd.flows c.toNat k e.toNat s4).1⟩,(Rd.flows c.toNat k e.toNat s4).2):=by
  simp only[Rd.net,e1,e2,e3,e4]
 rw[er];have hl:=oa (k:=k) ω c.toNat s2;have hn:=Rd.lines_len k s2 c.toNat;have hf:=Rd.flows_len c.toNat k s4 e.toNat;rw[e3]at hl hn;dsimp only at hl hn;have hcl:∀i:Nat,i<c.toNat->(l.getD i default).classes=k:=λi hi=>(hl _ (by simp[<-hn,hi])).2;have hfl:=oc hn.symm ω ω ω hcl e.toNat s4;refine⟨?_,?_,?_,?_,?_,?_,?_,?_,?_⟩
 ·dsimp only;omega
 ·dsimp only;omega
 ·show(bA _).length=l.length;rw[<-iu];exact hn
 ·exact jG _
 ·exact nY ω
 ·exactλx hx=>(hl x hx).1
 ·exactλf hm=>(hfl.1 f hm).2
 ·show(List.map Flow.name _).Nodup;rw[hfl.2];exact nZ ω
 ·exactλf hm=>(hfl.1 f hm).1
end Go.Nc