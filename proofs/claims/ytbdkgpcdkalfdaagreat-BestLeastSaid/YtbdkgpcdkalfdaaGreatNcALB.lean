/- Parts. -/
import Derived.Test.YtbdkgpcdkalfdaaGreatNcOPA
import Derived.Test.YtbdkgpcdkalfdaaGreatNcADA
import Derived.Test.YtbdkgpcdkalfdaaGreatNcBNA
namespace Go.Nc
open Go.Proofs.Tryz
open Go.Proofs
set_option maxHeartbeats 8000000
abbrev asC(s:Int):Curve:=⟨[0,100+s],1,1⟩
theorem Ej{s:Int}(hs:s=0\/s=9):Gd (asC s):=by
 rcases hs with rfl|rfl;all_goals exact⟨rfl,λv hv=>by simp only[List.mem_cons,List.not_mem_nil,or_false]at hv;unfold inf;omega⟩
theorem Ek{s:Int}(hs:s=0\/s=9)(t:Nat):(asC s).at t=if t=0 then 0 else 99+s+(t:Int):=by
 have h:=aW (F:=λt:Nat=>(asC s).at t) (s:=1) (p:=1) (inc:=1) (λt ht=>fU (aV (Ej hs).1) (Ej hs).2 (t:=t) (by show 2<=t+1;omega));by_cases e:t=0
 ·subst e;rfl
 ·rw[if_neg e];have:=h (t-1) 1 (ξ 1);rw[(ω:1+(t-1)*1=t)]at this;rw[this,show(asC s).at ((1:Nat):Int)=100+s from rfl];omega
def AsQ(s:Int)(a:Curve):Prop:=Gd a/\∀t:Nat,a.at t=(asC s).at t
theorem as_ln{s:Int}(hs:s = 0 \/ s = 9){F:Nat -> Int}(h:∀ t:Nat,F t = (asC s).at t):Ln F:=⟨1,ξ 1,fun t ht=>by
 rw[h,h,Ek hs,Ek hs,if_neg ω,if_neg ω];omega⟩
theorem G0{s:Int}(hs:s=0\/s=9):∃a,gH ac s.toNat=.ok a/\AsQ s a:=by
 have h:=(nG ac (v:=s.toNat) (by rcases hs with rfl|rfl<;>decide) Dy).of (H:=λt:Nat=>(asC s).at t) λt=>by
  unfold aZ;rw[Ek hs];split
  ·rfl
  ·rw[Dz,if_neg ω];rcases hs with rfl|rfl
   ·show(99:Int)+((t+0:Nat):Int)=99+0+t;omega
   ·show(99:Int)+((t+9:Nat):Int)=99+9+t;omega
 obtain⟨a,e⟩:=bQ (Ej hs) h;rw[e]at h;exact⟨a,e,h.gd λs' t hst=>bz (Ej hs) s' t hst,h.2.2.1⟩
theorem Hk{s:Int}(hs:s=0\/s=9){c:Curve}(hc:AsQ s c):∃z,sumX (ao 0) c=.ok z/\AsQ s z:=by
 have g0:Gd (ao 0):=aT φ;obtain⟨a,b,p,q,r⟩:=vv (ao 0) c g0 hc.1;rw[if_pos (Ln.com (Ln.line 0 φ) (as_ln hs hc.2) p q)]at r;obtain⟨z,e⟩:=bQ (Ej hs) (r.of λt=>by rw[jD,hc.2];omega);have hz:SumE (ao 0) c (.ok z):=e▸vv (ao 0) c;obtain⟨h1,h2⟩:=hz.gd g0 hc.1;exact⟨z,e,h1,λt=>by rw[h2,jD,hc.2];omega⟩
theorem as_dev{s:Int}(hs:s=0\/s=9){v:Nat}(hv:(v:Int)=if s=0 then 9 else 10){z:Curve}(gz:AsQ s z){sz:List Sz}{D:Except Int Dev}(h:SrvS ⟨1,10,1,[],[]⟩ 0 [z] sz D):∃w,D=.ok (false,(v:Int),w):=by
 unfold SrvS at h;rw[if_pos rfl]at h;have g0:Gd (ao 0):=aT φ;obtain⟨y,ey,hy⟩:=Hk hs gz;rw[show totC (λi=>[z].getD i c0) [z].length=.ok y from((vv (ao 0) z).eq g0 gz.1).symm.trans ey]at h;dsimp only at h;obtain⟨_,a,b,k1,k2,k3⟩:=h;rw[if_pos (Ln.com (as_ln hs hy.2) (Ln.line 10 φ) k1 k2)]at k3;have hd:HDev (λt=>y.at t) (λt=>(ao 10).at t) v:=by
  refine⟨λt=>?_,.inr ⟨1,v,Nat.add_comm _ _,?_⟩⟩
  ·dsimp only;rw[hy.2,Ek hs,bW 10 φ];split<;>rcases hs with rfl|rfl
   ·omega
   ·omega
   ·rw[if_pos rfl]at hv;omega
   ·rw[if_neg φ]at hv;omega
  ·dsimp only;rw[hy.2,Ek hs,bW 10 φ,if_neg φ];rcases hs with rfl|rfl
   ·rw[if_pos rfl]at hv;omega
   ·rw[if_neg φ]at hv;omega
 rcases D with e|⟨i,u,w⟩
 ·exact k3.elim
 ·obtain⟨h1,h2⟩:=k3;dsimp only at h1 h2;cases i with
  |true=>
   obtain⟨t,ht⟩:=h1 rfl v;have:=hd.1 t;dsimp only at this ht;omega
  |false=>
   obtain⟨v0,hv0⟩:=h2 rfl;have e:=HDev.unique (λs t hst=>by rw[bW 10 φ,bW 10 φ];omega) hv0 hd;obtain rfl:u=(v:Int):=ω;exact⟨w,rfl⟩
theorem qd{a b:Int}(ha:0 <= a/\a <= 400)(hb:0 <= b/\b <= 400):ShapeOk n2 [[a],[b]]:=⟨rfl,fun i hi=>by
 have hi2:i<2:=hi;rcases(ω:i=0\/i=1)with rfl|rfl<;>rfl,λi j hi hj=>by
 have hi2:i<2:=hi;rcases(ω:i=0\/i=1)with rfl|rfl
 ·have hj2:j<1:=hj;obtain rfl:j=0:=ω;exact(⟨ω,ha.2⟩:-1<=a/\a<=400)
 ·have hj2:j<1:=hj;obtain rfl:j=0:=ω;exact(⟨ω,hb.2⟩:-1<=b/\b<=400)⟩
theorem El{s a b:Int}(L:Nat)(hL:L<2)(hs:s=0\/s=9){v:Nat}(hv:(v:Int)=if s=0 then 9 else 10)(hd:ShapeOk n2 [[a],[b]])(hb:dJ n2 [[a],[b]] L 0=gH ac s.toNat):fZ n2 [[a],[b]] L 0=.ok (v:Int):=by
 obtain⟨c,ec,hc⟩:=G0 hs;obtain⟨z,ez,hz⟩:=Hk hs hc;have hm:a8 n2 L ((0:Nat):Int)=[0]:=by rcases(ω:L=0\/L=1)with rfl|rfl<;>decide
 have hcl:clsX n2 [[a],[b]] L ((0:Nat):Int)=.ok z:=by
  unfold clsX;rw[hm];unfold dm bM;rw[hb,ec];dsimp only;rw[ez];rfl
 have hln:n2.lines.getD ((L:Int)).toNat default=ln2:=by rcases(ω:L=0\/L=1)with rfl|rfl<;>rfl
 have ecs:cW n2 [[a],[b]] L (n2.lines.getD ((L:Int)).toNat default).classes.toNat=.ok [z]:=by
  rw[hln];show cW n2 [[a],[b]] L 1=_;unfold cW;rw[show cW n2 [[a],[b]] L 0=.ok []from rfl,hcl];rfl
 obtain⟨q1,q2⟩:=nj (k:=0) vX hd (L:=(L:Int)) ⟨ω,by show(L:Int)<((2:Nat):Int);omega⟩ (by rw[hln];decide) ecs;have h:=(mA q1 q2).1.2.2 (fun i hi=>by
  obtain rfl:i=0:=by simp at hi;omega
  exact hz.1)
 rw[hln]at h;obtain⟨w,ew⟩:=as_dev hs hv hz h;unfold fZ iU;rw[hm,if_neg φ,ecs];dsimp only;rw[hln,ew];have hv4:¬(400:Int)<v:=by split at hv<;>omega
 show(if false=true\/400<(v:Int)then Except.error 5 else Except.ok (v:Int))=_;rw[if_neg (by simp;omega)]
theorem Em(a b:Int):dJ n2 [[a],[b]] ((0:Nat):Int) 0=gH ac (0:Int).toNat:=rfl
theorem En{a:Int}(ha:a=0\/a=9)(b:Int):dJ n2 [[a],[b]] ((1:Nat):Int) 0=gH ac a.toNat:=by
 rcases ha with rfl|rfl<;>rfl
theorem qf{a b:Int}(ha:a=0\/a=9)(hb:0<=b/\b<=400){v:Nat}(hv:(v:Int)=if a=0 then 9 else 10):gg n2 [[a],[b]]=[[9],[(v:Int)]]:=by
 have hd:=qd (a:=a) (b:=b) (by rcases ha with rfl|rfl<;>decide) hb;have h0:=El (v:=9) 0 φ (.inl rfl) rfl hd (Em a b);have h1:=El (v:=v) 1 φ ha hv hd (En ha b);have e0:jO n2 [[a],[b]] 0 0=9:=by
  unfold jO;rw[h0];rfl
 have e1:jO n2 [[a],[b]] 1 0=(v:Int):=by
  unfold jO;rw[h1]
 show[[jO n2 [[a],[b]] 0 0],[jO n2 [[a],[b]] 1 0]]=_;rw[e0,e1]
theorem yd{x:Int}(hx:0<=x):Used n2 λi c=>0<=at2 [[9],[x]] i c:=λi c hi hc _=>by
 have hi2:i<2:=hi;rcases(ω:i=0\/i=1)with rfl|rfl
 ·have hc2:(c:Int)<1:=hc;obtain rfl:c=0:=ω;exact(by decide:(0:Int)<=9)
 ·have hc2:(c:Int)<1:=hc;obtain rfl:c=0:=ω;exact hx
theorem G1:iF n2 (bE n2) 10 (some ([[9],[10]],3)):=by
 have s0:bE n2 0=[[0],[0]]:=rfl;have s1:bE n2 1=[[9],[9]]:=by
  show gg _ (bE _ 0)=_;rw[s0];exact qf (v:=9) (.inl rfl) φ rfl
 have s2:bE n2 2=[[9],[10]]:=by
  show gg _ (bE _ 1)=_;rw[s1];exact qf (v:=10) (.inr rfl) φ rfl
 have s3:bE n2 3=[[9],[10]]:=by
  show gg _ (bE _ 2)=_;rw[s2];exact qf (v:=10) (.inr rfl) φ rfl
 have hu:=λ(x:Int)=>yd (x:=x);refine⟨φ,φ,s3.symm,λj h1 h2=>?_,?_,?_⟩
 ·rcases(ω:j=1\/j=2)with rfl|rfl
  ·refine⟨by rw[s1];exact hu _ φ,?_⟩;show bE _ 0≠bE _ 1;rw[s0,s1];decide
  ·refine⟨by rw[s2];exact hu _ φ,?_⟩;show bE _ 1≠bE _ 2;rw[s1,s2];decide
 ·rw[s3];exact hu _ φ
 ·show bE _ 2=bE _ 3;rw[s2,s3]
theorem Eo:q0d 14 [n2.av,J 10] (GZ (some ([[9],[10]],3))):=by
 obtain⟨x,hx,p⟩:=vY n2 vX tJ 10 φ φ;obtain rfl:=hx.uniq G1;exact p
theorem II:jQ n2 [[9],[10]] = true:=cY.2 ⟨⟨⟨vX,tJ⟩,qd φ φ⟩,by
 have e:=qf (a:=9) (b:=10) (v:=10) (.inr rfl) φ rfl;rw[show gg n2 [[9],[10]]=[[9],[10]]from e];exact⟨yd φ,λi c h1 h2 h3=>⟨yd φ i c h1 h2 h3,Int.le_refl _⟩⟩⟩
structure Bnd where
 found:Bool
 value:Int
 meth:Int
 choice:List Int
abbrev Cand:=Bnd×List Spl
def tS:Bnd:=⟨false,0,0,[]⟩
def d6(c:Cand)(x:Bnd)(ps:List Spl):Cand:=if c.1.found=false\/x.value<c.1.value then(x,ps)else c
def tryX(D:Curve->Except Int Dev)(c:Cand)(p:List Int×Curve×List Spl):Cand:=match cR (D p.2.1)with
 |.ok v=>d6 c ⟨true,v,2,p.1⟩ p.2.2
 |.error _=>c
noncomputable def hopO(n:Net)(d:Xa)(i k:Nat)(last:Bool)(o:Int):Except Int Curve:=match bn n d i k o with
 |.error e=>.error e
 |.ok z=>if last then .ok z else hopX z ((n.flows.getD i default).most-1)
noncomputable def iv(n:Net)(d:Xa)(i k:Nat)(last:Bool)(z:Curve)(ps:List Spl)(o:Int):Option (Curve×List Spl):=match hopO n d i k last o with
 |.error _=>none
 |.ok y=>if k=0 then some (y,ps)else match bY z y with
  |.error _=>none
  |.ok p=>some (p.res,ps++[p])
noncomputable def allP(n:Net)(d:Xa)(i:Nat):Nat->List Int->Curve->List Spl->List (List Int×Curve×List Spl)
 |0,ch,z,ps=>[(ch,z,ps)]
 |r+1,ch,z,ps=>match dq n d i ch.length with
  |.error _=>[]
  |.ok l=>l.flatMap λo=>match iv n d i ch.length (r==0) z ps o with
   |none=>[]
   |some y=>allP n d i r (ch++[o]) y.1 y.2
noncomputable def iw(n:Net)(d:Xa)(i:Nat)(D:Curve->Except Int Dev)(r:Nat)(ch:List Int)(z:Curve)(ps:List Spl)(c:Cand):Cand:=(allP n d i r ch z ps).foldl (tryX D) c
theorem gO(c:Cand)(x:Bnd)(ps:List Spl)(h:x.found=true):(d6 c x ps).1.found=true:=by
 unfold d6;split
 ·exact h
 ·rename_i g;cases hf:c.1.found with
  |true=>rfl
  |false=>exact absurd (.inl hf) g
theorem lO(c:Cand)(x:Bnd)(ps:List Spl):(d6 c x ps).1.value<=x.value/\(c.1.found=true->(d6 c x ps).1.value<=c.1.value):=by
 unfold d6;split
 ·rename_i g;refine⟨Int.le_refl _,λh=>?_⟩;rcases g with g|g
  ·rw[h]at g;cases g
  ·exact Int.le_of_lt g
 ·rename_i g;exact⟨by have:=λh=>g (.inr h);omega,λ_=>Int.le_refl _⟩
theorem lP(c:Cand)(x:Bnd)(ps:List Spl):d6 c x ps=(x,ps)\/d6 c x ps=c:=by
 unfold d6;split
 ·exact .inl rfl
 ·exact .inr rfl
theorem Ep(D:Curve->Except Int Dev)(c:Cand)(p:List Int×Curve×List Spl)(h:c.1.found=true):(tryX D c p).1.found=true/\(tryX D c p).1.value<=c.1.value:=by
 unfold tryX;split
 ·exact⟨gO _ _ _ rfl,(lO _ _ _).2 h⟩
 ·exact⟨h,Int.le_refl _⟩
theorem tT(D:Curve->Except Int Dev):∀(l:List (List Int×Curve×List Spl)) (c:Cand),
  (c.1.found=true->(l.foldl (tryX D) c).1.found=true/\(l.foldl (tryX D) c).1.value<=c.1.value)/\
  (∀p∈l,∀v,cR (D p.2.1)=.ok v->(l.foldl (tryX D) c).1.found=true/\(l.foldl (tryX D) c).1.value<=v)/\
  (l.foldl (tryX D) c=c\/∃p∈l,∃v,cR (D p.2.1)=.ok v/\l.foldl (tryX D) c=(⟨true,v,2,p.1⟩,p.2.2))
 |[],c=>⟨λh=>⟨h,Int.le_refl _⟩,λp hp=>by simp at hp,.inl rfl⟩
 |q::l,c=>by
  obtain⟨h1,h2,h3⟩:=tT D l (tryX D c q);rw[List.foldl_cons];refine⟨λh=>?_,λp hp v hv=>?_,?_⟩
  ·obtain⟨k1,k2⟩:=Ep D c q h;obtain⟨k3,k4⟩:=h1 k1;exact⟨k3,ω⟩
  ·rcases List.mem_cons.1 hp with e|hp
   ·subst e;have e2:tryX D c p=d6 c ⟨true,v,2,p.1⟩ p.2.2:=by unfold tryX;rw[hv]
    have k1:(tryX D c p).1.found=true:=by rw[e2];exact gO _ _ _ rfl
    have k2:(tryX D c p).1.value<=v:=by rw[e2];exact(lO _ _ _).1
    obtain⟨k3,k4⟩:=h1 k1;exact⟨k3,ω⟩
   ·exact h2 p hp v hv
  ·rcases h3 with h3|⟨p,hp,v,hv,e⟩
   ·rw[h3];unfold tryX;rcases hv:cR (D q.2.1)with e|v
    ·exact .inl rfl
    ·dsimp only;rcases lP c ⟨true,v,2,q.1⟩ q.2.2 with e|e
     ·exact .inr ⟨q,by simp,v,hv,e⟩
     ·exact .inl e
   ·exact .inr ⟨p,List.mem_cons_of_mem _ hp,v,hv,e⟩
theorem fj{n:Net}{d:Xa}{i r:Nat}{ch:List Int}{z:Curve}{ps:List Spl}{l:List Int}(h:dq n d i ch.length=.ok l) :
  allP n d i (r+1) ch z ps=l.flatMap λo=>match iv n d i ch.length (r==0) z ps o with
   |none=>[]
   |some y=>allP n d i r (ch++[o]) y.1 y.2:=by
 show(match dq n d i ch.length with |.error _=>[]|.ok l=>_)=_;rw[h]
theorem zP{n:Net}{d:Xa}{i r:Nat}{ch:List Int}{z:Curve}{ps:List Spl}{l:List Int}(h:dq n d i ch.length=.ok l){o:Int}(ho:o∈l){y:Curve×List Spl}(hy:iv n d i ch.length (r==0) z ps o=some y)
  {q:List Int×Curve×List Spl} (hq:q∈allP n d i r (ch++[o]) y.1 y.2):q∈allP n d i (r+1) ch z ps:=by
 rw[fj h];refine List.mem_flatMap.2 ⟨o,ho,?_⟩;rw[hy];exact hq
def bndC(x:Bnd):List AV:=[.bool x.found,J x.value,J x.meth,ints x.choice]
def cT(c:Cand):List AV:=[.bool c.1.found,J c.1.value,J c.1.meth,ints c.1.choice,slc 5 Spl.cells default c.2]
theorem wn(c:Cand)(x:Bnd)(ps:List Spl):q0c 135 [.lptr 909 0,.agg (bndC x),slc 5 Spl.cells default ps] [(909,.box (cT c))] (.tup []) [(909,.box (cT (d6 c x ps)))]:=by
 obtain⟨⟨f,v,m,ch⟩,qs⟩:=c;rcases f with _|_
 ·rw[show d6 (⟨false,v,m,ch⟩,qs) x ps=(x,ps)from if_pos (.inl rfl)];refine opG func135 ntmps135 results135 (λ_ _ _=>?_) (hcl:=⟨rfl,rfl,rfl,bP rfl,bP rfl,rfl⟩);repeat'(first|refine' gQ|fail)
  all_goals first|exact Ψ|rfl|(exfalso;omega)
 ·by_cases h:x.value<v
  ·rw[show d6 (⟨true,v,m,ch⟩,qs) x ps=(x,ps)from if_pos (.inr h)];refine opG func135 ntmps135 results135 (λ_ _ _=>?_) (hcl:=⟨rfl,rfl,rfl,bP rfl,bP rfl,rfl⟩);repeat'(first|(refine Λ h λhb=>?_;conv=>whnf)|refine' gQ|fail)
   all_goals first|exact Ψ|rfl|(exfalso;omega)
  ·rw[show d6 (⟨true,v,m,ch⟩,qs) x ps=(⟨true,v,m,ch⟩,qs)from if_neg (by rintro(h2|h2);cases h2;exact h h2)];refine opG func135 ntmps135 results135 (λ_ _ _=>?_) (hcl:=⟨rfl,rfl,rfl,bP rfl,bP rfl,rfl⟩);repeat'(first|(refine Υ h λhb=>?_;conv=>whnf)|refine' gQ|fail)
   all_goals first|exact Ψ|rfl|(exfalso;omega)
open Go.Proofs Go.RowKit
set_option maxRecDepth 100000 in
theorem rZ(w:World)(p:Option Addr)(c:Nat):Calls prog 193 #[.slice p 0 c] w λe w'=>(∃q,e=.returned (.slice q 0 0))/\Below w.heap.size w w':=by
 have hte:=aC 65 _ rfl;have hsl:prog.underlying 25=some (.slice 65):=(aC 25 _ rfl).slice rfl;have q22:∀(w:World) (a:Option Addr) (n c n' c':Nat),(binOp .eql 25 (.slice a n c) (.slice none n' c')).run prog w=.ok (.bool a.isNone) w:=λw a n c n' c'=>Lib.run_eql_slice_nil w _ _ a n c n' c' hsl;have u22:∀w,Sem.run prog (underlying 25) w=.ok (TypeDesc.slice 65) w:=run_underlying hsl;cases p with
 |none=>
  go_enter func193,ntmps193
  go_wp2
  go_ret
  exact⟨⟨none,rfl⟩,Below.refl _ _⟩
 |some a=>
  go_enter func193,ntmps193
  go_wp2_with (at_builtin;refine iS rfl _ _ 25 rfl hsl hte _ _ _ rfl rfl ?_)
  go_ret
  exact⟨⟨_,rfl⟩,(Below.refl _ w).alloc (ξ _) _⟩
theorem Br(l:List Spl)(hl:1<=l.length/\l.length<=1099511627776):q0d 193 [slc 5 Spl.cells default l] (slc 5 Spl.cells default l):=by
 refine opG func193 ntmps193 results193 λ_ _ _=>?_;repeat'(first|refine' gr|(refine bB [] [] [] [(2,.osl 7 l.length)] [(7,some (.arr l.length 5 (λi=>Spl.cells (l.getD i default)) 65))] ⟨⟨rfl,rfl⟩,?_,?_⟩ (cj 7 rfl rfl (λ_ _=>rfl) ?_ ?_ (da ?_))))
 all_goals try omega
 ·skip;all_goals((refine' subP)<;>first|exact q0b ω λi hi=>rfl|exact sq1)
 ·skip;all_goals((refine' subP)<;>first|exact Θ (congrArg (AV.osl 7) ω)|exact sq1)
 ·all_goals try refine' frzZ
 ·exact⟨λi hi=>by(repeat'(first|exact True.intro|refine And.intro ?_ ?_)),trivial⟩
 ·exact Ψ
 ·exact⟨ω,Hf ω (λ_ _=>rfl)⟩
theorem Er(l:List Spl)(h:l.length<=1099511627776):q0d 193 [slc 5 Spl.cells default l] (slc 5 Spl.cells default l):=by
 rcases l with _|⟨x,r⟩
 ·exact CallSpec.empty (tM func193 rfl (by kernel_rfl)) rZ 5 5 _ _
 ·exact Br (x::r) ⟨by simp,h⟩
theorem mP{P:Program}{f:FuncId}(us vs:List AV){o:Xd}{k:List Nat->AV->Xb->Prop}{r:AV}{id n m sz T:Nat}{get get':Nat->List AV}{ins outs:Xc}(h:CallSpec P f (us++.isl n sz get::vs) ins r outs)
  (hi1:luL ins id=none) (hi2:luL outs id=none) (ho:o id=some (.arr m sz get' T)) (hin:dK o ins) (hout:fA o ((id,.arr m sz get' T)::ins) ((id,.dead)::outs)) (hnm:n<=m) (hg:∀i,i<n->get' i=get i) (him:∀i,i<m->nmL [] (get' i)=true)
  (hk:k (((id,LObj.arr m sz get' T)::ins).map (·.1)++((id,LObj.dead)::outs).map (·.1)) r (bb ((id,.dead)::outs))):vCall P f (us++.osl id n::vs) o k :=
 ⟨r,_,_,h.thaw id hnm hg him hi1 hi2,⟨ho,hin⟩,hout,hk⟩
theorem Es{P:Program}{f:FuncId}(he:∀(xs:Array Value) (w:World),(callFunc f xs).run P w=.ok (.enter f xs) w)
  (h:∀(w:World) (p:Option Addr) (c:Nat),Calls P f #[.slice p 0 c] w λe w'=>(∃q,e=.returned (.slice q 0 0))/\Below w.heap.size w w') (sz:Nat) (get:Nat->List AV):CallSpec P f [.isl 0 sz get] [] .emp []:=by
 refine⟨he,λid ob h=>(by cases h),λid ob h=>(by cases h),λw ρ Im xs hm hx=>?_⟩;obtain⟨p,c,rfl⟩:∃p c,xs= #[.slice p 0 c]:=by
  obtain⟨h1,h2⟩:=hx;obtain⟨x,rfl⟩:∃x,xs= #[x]:=by
   obtain⟨l⟩:=xs;match l,h1 with
   |[x],_=>exact⟨x,rfl⟩
  have h3:=h2 0 _ x rfl rfl;rcases h3.isl_inv with⟨_,p,rfl⟩|⟨b,off,cap,arr,T,fr,rfl,_⟩
  ·exact⟨p,0,rfl⟩
  ·exact⟨_,cap,rfl⟩
 refine(h w p c).mono λe w' hb=>?_;obtain⟨⟨q,rfl⟩,hb⟩:=hb;refine⟨_,ρ,Im,rfl,.imm _ _ (.emp q),λi hi=>(by cases hi),?_⟩;refine ⟨fun id ob h=>(by cases h),fun id ob b h=>(by cases h),fun id id' ob ob' b h=>(by cases h),fun id ob h=>(by cases h),fun b hI=>Nat.lt_of_lt_of_le (hm.imlt b hI) hb.size,fun _ h=>h,fun _ h=>.inl h,
  hb.os,hb.tape,hb.output,hb.size,λb hlt _=>hb.block b hlt,λid h=>(by cases h),λl r h=>⟨r.state,r.pending,?_⟩,λl h=>(by cases h)⟩
 have hl:l<w.heap.size:=(Array.getElem?_eq_some_iff.1 h).1;rw[hb.block l hl];exact h
theorem Bs:q0d 159 [ints []] .emp:=Es (tM func159 rfl (by kernel_rfl)) Bo 1 _
theorem si:q0d 193 [slc 5 Spl.cells default []] .emp:=Es (tM func193 rfl (by kernel_rfl)) rZ 5 _
def f7(n:Net)(d:Xa)(i:Nat):List AV:=n.cells++[aK d,J i,.lptr 909 0]
def wq(n:Net)(d:Xa)(i:Nat)(D:Curve->Except Int Dev)(r:Nat)(ch:List Int)(z:Curve)(ps:List Spl):Prop :=
 ∀c:Cand,q0c 136 [.lptr 912 0,ints ch,z.av,slc 5 Spl.cells default ps] [(912,.box (f7 n d i)),(909,.box (cT c))] (.tup []) [(912,.box (f7 n d i)),(909,.box (cT (iw n d i D r ch z ps c)))]
theorem cl2{l:Xc}{a b:Nat×LObj}(h:l=[a,b])(ha:obCl (l.map (·.1)) a.2)(hb:obCl (l.map (·.1)) b.2):∀p∈l,obCl (l.map (·.1)) p.2:=by
 subst h;intro p hp;simp only[List.mem_cons,List.not_mem_nil,or_false]at hp;rcases hp with rfl|rfl
 ·exact ha
 ·exact hb
theorem wr(n:Net)(d:Xa)(h:NetOk n)(i:Nat)(hi:i<n.flows.length)(D:Curve->Except Int Dev)(hD:DelF (n.flows.getD i default).con D)(ch:List Int)(hch:ch.length=(n.flows.getD i default).route.length)(z:Curve)(hz:ax z)(ps:List Spl)(hps:ps.length<=10):wq n d i D 0 ch z ps:=by
 intro c;have hfl:=h.flen;have hfo:FlowOk n.lines (n.flows.getD i default):=h.flow _ (by simp[hi]);have hne:=hfo.ne;have hlen:(ch.length:Int)=(n.flows.getD (i:Int).toNat default).route.length:=by rw[χ];omega
 have p1:=hD.spec z hz;have he:=hD.err z;have p2:=ik ch ω;have p3:=Er ps ω;show CallSpec _ _ _ _ _ [_,(909,.box (cT (tryX D c (ch,z,ps))))];unfold tryX;dsimp only;have hcl:∀c:Cand,∀p∈[(912,LObj.box (f7 n d i)),(909,.box (cT c))],obCl ([(912,LObj.box (f7 n d i)),(909,.box (cT c))].map (·.1)) p.2:=λc=>cl2 rfl rfl rfl;rcases hx:D z with e|⟨b,v,w⟩
 ·have he:=he e hz hx;rw[hx]at p1;show CallSpec _ _ _ _ _ [_,(909,.box (cT c))];refine opG func136 ntmps136 results136 (λ_ _ _=>?_) (hcl:=⟨rfl,rfl,rfl,hcl c,hcl c,rfl⟩);repeat'(first|(refine Λ hlen λhb=>?_;conv=>whnf)|refine' ak|(refine bq ⟨?_,rfl,rfl,trivial⟩;conv=>whnf)|refine ab p1 ?_)
  all_goals first|exact absurd ‹_› he|exact Ψ|exact⟨rfl,rfl,trivial⟩|rfl|omega|(exfalso;omega)
 ·rw[hx]at p1;by_cases hv:b=true\/2000<v
  ·rw[show cR (.ok (b,v,w))=.error 5 from if_pos hv];dsimp only;rcases b with _|_
   ·have hv:¬v<=2000:=by
     rcases hv with hv|hv
     ·cases hv
     ·omega
    refine opG func136 ntmps136 results136 (λ_ _ _=>?_) (hcl:=⟨rfl,rfl,rfl,hcl c,hcl c,rfl⟩);repeat'(first|(refine Υ hv λhb=>?_;conv=>whnf)|(refine Λ hlen λhb=>?_;conv=>whnf)|refine' ak|(refine bq ⟨?_,rfl,rfl,trivial⟩;conv=>whnf)|refine ab p1 ?_)
    all_goals first|exact Ψ|exact⟨rfl,rfl,trivial⟩|rfl|omega|(exfalso;omega)
   ·refine opG func136 ntmps136 results136 (λ_ _ _=>?_) (hcl:=⟨rfl,rfl,rfl,hcl c,hcl c,rfl⟩);repeat'(first|(refine Λ hlen λhb=>?_;conv=>whnf)|refine' ak|(refine bq ⟨?_,rfl,rfl,trivial⟩;conv=>whnf)|refine ab p1 ?_)
    all_goals first|exact Ψ|exact⟨rfl,rfl,trivial⟩|rfl|omega|(exfalso;omega)
  ·rw[show cR (.ok (b,v,w))=.ok v from if_neg hv];dsimp only;rcases b with _|_
   ·have hv:v<=2000:=by
     have:=λh=>hv (.inr h);omega
    have p4:=wn c ⟨true,v,2,ch⟩ ps;refine opG func136 ntmps136 results136 (λ_ _ _=>?_) (hcl:=⟨rfl,rfl,rfl,hcl c,hcl _,rfl⟩);repeat'(first|(refine Λ hv λhb=>?_;conv=>whnf)|(refine Λ hlen λhb=>?_;conv=>whnf)|refine' ak|(refine bq ⟨?_,rfl,rfl,trivial⟩;conv=>whnf)|refine ab p1 ?_|refine ab p2 ?_|refine ab p3 ?_|refine bT p4 ?_)
    all_goals first|exact Ψ|exact⟨rfl,rfl,trivial⟩|rfl|omega|(exfalso;omega)
   ·exact absurd (.inl rfl) hv
theorem emp_le{sz:Nat}{g:Nat -> List AV}:AvLe .emp (.isl 0 sz g):=⟨fun _ _ _ _ h=>by
 cases h with
 |imm _ _ h=>cases h with
  |emp p=>exact .imm _ _ (.isl0 _ _ _)⟩
theorem G2(o:Int):∀i,i<1->[J o]=[J (([o]:List Int).getD i 0)]:=λi hi=>by
 obtain rfl:i=0:=ω;rfl
theorem mQ{n:Net}{d:Xa}{i:Nat}{last:Bool}{z:Curve}{ps:List Spl}{o:Int}:iv n d i 0 last z ps o=match hopO n d i 0 last o with
 |.error _=>none
 |.ok y=>some (y,ps):=rfl
theorem qg{n:Net}{d:Xa}{i k:Nat}{last:Bool}{z:Curve}{ps:List Spl}{o:Int}:iv n d i (k+1) last z ps o=match hopO n d i (k+1) last o with
 |.error _=>none
 |.ok y=>match bY z y with
  |.error _=>none
  |.ok p=>some (p.res,ps++[p]):=rfl
theorem Hl{n:Net}{d:Xa}{i k:Nat}{last:Bool}{o e:Int}(h:bn n d i k o=.error e):hopO n d i k last o=.error e:=by
 unfold hopO;rw[h]
theorem zQ{n:Net}{d:Xa}{i k:Nat}{o:Int}{y:Curve}(h:bn n d i k o=.ok y):hopO n d i k true o=.ok y:=by
 unfold hopO;rw[h];rfl
theorem Et{n:Net}{d:Xa}{i k:Nat}{o:Int}{y:Curve}(h:bn n d i k o=.ok y):hopO n d i k false o=hopX y ((n.flows.getD i default).most-1):=by
 unfold hopO;rw[h];rfl
noncomputable def goP(n:Net)(d:Xa)(i r:Nat)(ch:List Int)(z:Curve)(ps:List Spl)(o:Int):List (List Int×Curve×List Spl):=match iv n d i ch.length (r==0) z ps o with
 |none=>[]
 |some y=>allP n d i r (ch++[o]) y.1 y.2
theorem nQ{n:Net}{d:Xa}{i r:Nat}{ch:List Int}{z:Curve}{ps:List Spl}{o:Int}(h:iv n d i ch.length (r==0) z ps o=none):goP n d i r ch z ps o=[]:=by
 unfold goP;rw[h]
theorem tU{n:Net}{d:Xa}{i r:Nat}{ch:List Int}{z y:Curve}{ps qs:List Spl}{o:Int}(h:iv n d i ch.length (r==0) z ps o=some (y,qs)):goP n d i r ch z ps o=allP n d i r (ch++[o]) y qs:=by
 unfold goP;rw[h]
noncomputable def kD(n:Net)(d:Xa)(i:Nat)(D:Curve->Except Int Dev)(r:Nat)(ch:List Int)(z:Curve)(ps:List Spl)(l:List Int)(j:Nat)(c:Cand):Cand:=((l.drop j).flatMap (goP n d i r ch z ps)).foldl (tryX D) c
theorem sj{n:Net}{d:Xa}{i:Nat}{D:Curve->Except Int Dev}{r:Nat}{ch:List Int}{z:Curve}{ps:List Spl}{l:List Int}{j:Nat}(hj:j<l.length)(c:Cand) :
  kD n d i D r ch z ps l j c=kD n d i D r ch z ps l (j+1) ((goP n d i r ch z ps (l.getD j 0)).foldl (tryX D) c):=by
 unfold kD;rw[c5 hj,List.flatMap_cons,List.foldl_append]
theorem wt{n:Net}{d:Xa}{i:Nat}{D:Curve->Except Int Dev}{r:Nat}{ch:List Int}{z:Curve}{ps:List Spl}{l:List Int}(c:Cand):kD n d i D r ch z ps l l.length c=c:=by
 unfold kD;rw[List.drop_length];rfl
theorem wu{n:Net}{d:Xa}{i:Nat}{D:Curve->Except Int Dev}{r:Nat}{ch:List Int}{z:Curve}{ps:List Spl}{l:List Int}(h:dq n d i ch.length=.ok l)(c:Cand):iw n d i D (r+1) ch z ps c=kD n d i D r ch z ps l 0 c:=by
 unfold iw kD;rw[fj h,List.drop_zero];rfl
theorem wv{n:Net}{d:Xa}{i:Nat}{D:Curve->Except Int Dev}{r:Nat}{ch:List Int}{z:Curve}{ps:List Spl}{e:Int}(h:dq n d i ch.length=.error e)(c:Cand):iw n d i D (r+1) ch z ps c=c:=by
 unfold iw allP;rw[h];rfl
theorem j1(n:Net)(d:Xa)(i:Nat)(c:Cand):∀p∈[(912,LObj.box (f7 n d i)),(909,.box (cT c))],obCl ([(912,LObj.box (f7 n d i)),(909,.box (cT c))].map (·.1)) p.2:=cl2 rfl rfl rfl
theorem ww{n:Net}{d:Xa}{i:Nat}{D:Curve->Except Int Dev}{r:Nat}{o:Int}{y:Curve}(h:wq n d i D r [o] y [])(c:Cand) :
  q0c 136 ([.lptr 912 0]++.isl 1 1 (λ_=>[J o])::[y.av,.emp]) [(912,.box (f7 n d i)),(909,.box (cT c))] (.tup []) [(912,.box (f7 n d i)),(909,.box (cT (iw n d i D r [o] y [] c)))] :=
 (h c).arg (.cons Ψ (.cons (Γ rfl (G2 o)) (.cons Ψ (.cons emp_le .nil))))
theorem qh{n:Net}{d:Xa}(h:NetOk n)(hd:ShapeOk n d){i k:Nat}(hi:i<n.flows.length)(hk:k<(n.flows.getD i default).route.length){l:List Int}(e:dq n d i k=.ok l):(1<=l.length/\l.length<=3)/\∀x∈l,0<=x/\x<=401:=by
 have hfo:FlowOk n.lines (n.flows.getD i default):=h.flow _ (by simp[hi]);have h1:=hfo.lines _ (a9 (l:=(n.flows.getD i default).route) (i:=k) hk);have h2:=hfo.cls2 _ (a9 (l:=(n.flows.getD i default).route) (i:=k) hk);have h0:=hfo.cls;have h3:=hd.row ((n.flows.getD i default).route.getD k 0).toNat ω;have h4:=hd.val ((n.flows.getD i default).route.getD k 0).toNat (n.flows.getD i default).class_.toNat ω ω;unfold dq at e;split at e
 ·cases e
 ·rename_i g;obtain⟨v,ev⟩:∃v,v=(d.getD ((n.flows.getD i default).route.getD k 0).toNat []).getD (n.flows.getD i default).class_.toNat 0:=⟨_,rfl⟩;rw[<-ev]at e h4 g;cases e;unfold optL;split
  ·refine⟨by simp,λx hx=>?_⟩;simp only[List.mem_cons,List.not_mem_nil,or_false]at hx;omega
  ·refine⟨by simp,λx hx=>?_⟩;simp only[List.mem_cons,List.not_mem_nil,or_false]at hx;omega
theorem G3(a b:Int):∀i,i<2->(bif Nat.beq i 0 then[J a]else[J b])=[J (([a,b]:List Int).getD i 0)]:=λi hi=>by
 rcases(ω:i=0\/i=1)with rfl|rfl<;>rfl
theorem IJ(p:Spl):∀i,i<1->Spl.cells p=Spl.cells (([p]:List Spl).getD i default):=λi hi=>by
 obtain rfl:i=0:=ω;rfl
theorem Eu{n:Net}{d:Xa}{i:Nat}{D:Curve->Except Int Dev}{a o:Int}{y:Curve}{p:Spl}(h:wq n d i D 0 [a,o] y [p])(c:Cand) :
  q0c 136 ([.lptr 912 0]++.isl 2 1 (λi=>bif Nat.beq i 0 then[J a]else[J o])::[y.av,.isl 1 5 λ_=>Spl.cells p]) [(912,.box (f7 n d i)),(909,.box (cT c))] (.tup []) [(912,.box (f7 n d i)),(909,.box (cT (iw n d i D 0 [a,o] y [p] c)))] :=
 (h c).arg (.cons Ψ (.cons (Γ rfl (G3 a o)) (.cons Ψ (.cons (Γ rfl (IJ p)) .nil))))
theorem Hm(n:Net)(d:Xa)(h:NetOk n)(hw:NamesOk n)(hd:ShapeOk n d)(i:Nat)(hi:i<n.flows.length)(D:Curve->Except Int Dev)(r:Nat)(hr:(n.flows.getD i default).route.length=r+1)(z:Curve)
  (hrec:∀o y,ax y->ah o->wq n d i D r [o] y []):wq n d i D (r+1) [] z []:=by
 intro c;have hfl:=h.flen;have hfo:FlowOk n.lines (n.flows.getD i default):=h.flow _ (by simp[hi]);have hsz:=hfo.sizes;have hne:=hfo.ne;have p1:=Dw n d h hd i 0 hi ω;obtain⟨f,ef⟩:∃f,f=n.flows.getD i default:=⟨_,rfl⟩;have hlen:¬((([]:List Int).length:Nat):Int)=(n.flows.getD (i:Int).toNat default).route.length:=by rw[χ,hr];simp;omega
 rcases ho:dq n d i 0 with e|l
 ·have he:e≠0:=by
   unfold dq at ho;split at ho<;>cases ho;decide
  rw[wv (ch:=[]) (r:=r) ho];rw[ho]at p1;suffices hh:∃x,x=c/\q0c 136 [.lptr 912 0,ints [],z.av,slc 5 Spl.cells default []] [(912,.box (f7 n d i)),(909,.box (cT c))] (.tup []) [(912,.box (f7 n d i)),(909,.box (cT x))] by obtain⟨_,rfl,p⟩:=hh;exact p
  refine opE func136 ntmps136 results136 ?_ (hcl:=⟨rfl,rfl,j1 n d i c⟩) (hco:=λc'=>⟨rfl,j1 n d i c',rfl⟩);repeat'(first|(refine Υ hlen λhb=>?_;conv=>whnf)|refine' aj|refine ab p1 ?_)
  all_goals try first|exact ariA|(exfalso;omega)|exact absurd ‹_› he
  exact aI ⟨c,rfl,⟨rfl,rfl,trivial⟩,rfl⟩
 ·obtain⟨X,eX⟩:∃X,X=iw n d i D (r+1) [] z [] c:=⟨_,rfl⟩;have hX:kD n d i D r [] z [] l 0 c=X:=by rw[eX];exact(wu (ch:=[]) (r:=r) ho c).symm
  rw[<-eX];rw[ho]at p1;have hl3:=qh h hd hi ω ho;suffices hh:∃x,x=X/\q0c 136 [.lptr 912 0,ints [],z.av,slc 5 Spl.cells default []] [(912,.box (f7 n d i)),(909,.box (cT c))] (.tup []) [(912,.box (f7 n d i)),(909,.box (cT x))] by obtain⟨_,rfl,p⟩:=hh;exact p
  refine opE func136 ntmps136 results136 ?_ (hcl:=⟨rfl,rfl,j1 n d i c⟩) (hco:=λc'=>⟨rfl,j1 n d i c',rfl⟩);repeat'(first|(refine Υ hlen λhb=>?_;conv=>whnf)|refine' aj|refine ab p1 ?_)
  all_goals try exact ariB
  refine ae (ι:={q:Nat×Cand//q.1<=l.length/\kD n d i D r [] z [] l q.1 q.2=X}) [0,1,3,6,8,9,12,89] [6,8,912] [] ⟨(0,c),π _,hX⟩ (λ⟨(j,_),_⟩=>l.length-j) (λ⟨(j,_),_⟩=>[(90,J j)]) (λ⟨(_,c),_⟩=>[(909,some (.box (cT c)))]) ?_ ?_
  ·exact⟨⟨rfl,rfl⟩,sq1,sq1⟩
  ·rintro⟨⟨j,c⟩,hj,hv⟩;conv=>whnf
   dsimp only at hj hv;by_cases hjl:(j:Int)<l.length
   ·have hjn:j<l.length:=ω;obtain⟨o,eo⟩:∃o,o=l.getD j 0:=⟨_,rfl⟩;have eo2:l.getD (j:Int).toNat 0=o:=by rw[eo];rfl
    have hin:ah o:=by
     have:=hl3.2 o (by rw[eo];exact a9 hjn);unfold ah;omega
    have p2:q0d 53 [n.av,aK d,J i,J (0:Nat),J (l.getD (j:Int).toNat 0)] (ay (bn n d i 0 o)):=by
     rw[eo2];exact pM n d h hw hd i 0 hi ω o hin
    have hz0:(([]:List Int).length:Int)=0:=rfl;have hr2:((n.flows.getD (i:Int).toNat default).route.length:Int)=r+1:=by rw[χ,hr];rfl
    rw[sj hjn,<-eo]at hv;rcases hc:bn n d i 0 o with e|y
    ·have he:=nO h hw hd hi ω hc;rw[nQ (ch:=[]) (by rw[show([]:List Int).length=0 from rfl,mQ,Hl hc])]at hv;have hv:kD n d i D r [] z [] l (j+1) c=X:=hv;rw[hc]at p2;repeat'(first|(refine Λ hjl λhb=>?_;conv=>whnf)|(exact aJ [] ⟨(j+1,c),hjn,hv⟩)|refine' aj|refine ab p2 ?_)
     all_goals try first|exact ariA|(exfalso;omega)|exact absurd ‹_› he
    ·have hy:=fe h hw hd hi ω hc;rw[hc]at p2;have p7:=Bs;have p8:=si;rcases r with _|r
     ·rw[tU (ch:=[]) (y:=y) (qs:=[]) (by rw[show([]:List Int).length=0 from rfl,mQ,show((0:Nat)==0)=true from rfl,zQ hc])]at hv;have p5:q0c 136 ([.lptr 912 0]++.isl 1 1 (λ_=>[J (l.getD (j:Int).toNat 0)])::[y.av,.emp]) [(912,.box (f7 n d i)),(909,.box (cT c))] (.tup []) [(912,.box (f7 n d i)),(909,.box (cT (iw n d i D 0 [o] y [] c)))]:=by
       rw[eo2];exact ww (hrec o y hy hin) c
      repeat'(first|(refine Λ hjl λhb=>?_;conv=>whnf)|(exact aJ [] ⟨(j+1,iw n d i D 0 [o] y [] c),hjn,hv⟩)|refine' aj|refine ab p2 ?_|refine ab p7 ?_|refine ab p8 ?_|(refine mP [.lptr 912 0] [y.av,.emp] p5 rfl rfl rfl ⟨rfl,rfl,trivial⟩ ⟨trivial,trivial,trivial,trivial⟩ (ξ _) (λi hi=>(by obtain rfl:i=0:=ω;rfl)) (λi hi=>(by obtain rfl:i=0:=ω;rfl)) ?_;conv=>whnf))
      all_goals try first|exact ariA|(exfalso;omega)|exact⟨ξ _,aO ω rfl⟩
     ·have p3:=Hb y hy (n.flows.getD i default).most ω;rcases hx:hopX y ((n.flows.getD i default).most-1)with e|y
      ·have he:=pT hy hx;subst he;rw[nQ (ch:=[]) (by rw[show([]:List Int).length=0 from rfl,mQ,show(r+1==0)=false from rfl,Et hc,hx])]at hv;have hv:kD n d i D (r+1) [] z [] l (j+1) c=X:=hv;rw[hx]at p3;repeat'(first|(refine Λ hjl λhb=>?_;conv=>whnf)|(exact aJ [] ⟨(j+1,c),hjn,hv⟩)|refine' aj|refine ab p2 ?_|refine ab p3 ?_)
       all_goals try exact ariB
      ·have hy:=vT hy hx;rw[tU (ch:=[]) (y:=y) (qs:=[]) (by rw[show([]:List Int).length=0 from rfl,mQ,show(r+1==0)=false from rfl,Et hc,hx])]at hv;rw[hx]at p3;have p5:q0c 136 ([.lptr 912 0]++.isl 1 1 (λ_=>[J (l.getD (j:Int).toNat 0)])::[y.av,.emp]) [(912,.box (f7 n d i)),(909,.box (cT c))] (.tup []) [(912,.box (f7 n d i)),(909,.box (cT (iw n d i D (r+1) [o] y [] c)))]:=by
        rw[eo2];exact ww (hrec o y hy hin) c
       repeat'(first|(refine Λ hjl λhb=>?_;conv=>whnf)|(exact aJ [] ⟨(j+1,iw n d i D (r+1) [o] y [] c),hjn,hv⟩)|refine' aj|refine ab p2 ?_|refine ab p3 ?_|refine ab p7 ?_|refine ab p8 ?_|(refine mP [.lptr 912 0] [y.av,.emp] p5 rfl rfl rfl ⟨rfl,rfl,trivial⟩ ⟨trivial,trivial,trivial,trivial⟩ (ξ _) (λi hi=>(by obtain rfl:i=0:=ω;rfl)) (λi hi=>(by obtain rfl:i=0:=ω;rfl)) ?_;conv=>whnf))
       all_goals try first|exact ariA|(exfalso;omega)|exact⟨ξ _,aO ω rfl⟩
   ·obtain rfl:j=l.length:=ω;rw[wt]at hv;repeat'(first|(refine Υ hjl λhb=>?_;conv=>whnf)|refine' aj|fail)
    all_goals try exact ariB
    exact aI ⟨c,rfl,⟨rfl,rfl,trivial⟩,hv⟩
theorem next_1(n:Net)(d:Xa)(h:NetOk n)(hw:NamesOk n)(hd:ShapeOk n d)(i:Nat)(hi:i<n.flows.length)(D:Curve->Except Int Dev)(hr:(n.flows.getD i default).route.length=2)(a:Int)(z:Curve)(hz:ax z)
  (hrec:∀o y p,ax y->ah o->wq n d i D 0 [a,o] y [p]):wq n d i D 1 [a] z []:=by
 intro c;have hfl:=h.flen;have hfo:FlowOk n.lines (n.flows.getD i default):=h.flow _ (by simp[hi]);have hsz:=hfo.sizes;have p1:=Dw n d h hd i 1 hi ω;have hz1:(([a]:List Int).length:Int)=1:=rfl;have hr2:((n.flows.getD (i:Int).toNat default).route.length:Int)=2:=by rw[χ,hr];rfl
 have hlen:¬((([a]:List Int).length:Nat):Int)=(n.flows.getD (i:Int).toNat default).route.length:=ω;rcases ho:dq n d i 1 with e|l
 ·have he:e≠0:=by
   unfold dq at ho;split at ho<;>cases ho;decide
  rw[wv (ch:=[a]) (r:=0) ho];rw[ho]at p1;suffices hh:∃x,x=c/\q0c 136 [.lptr 912 0,ints [a],z.av,slc 5 Spl.cells default []] [(912,.box (f7 n d i)),(909,.box (cT c))] (.tup []) [(912,.box (f7 n d i)),(909,.box (cT x))] by obtain⟨_,rfl,p⟩:=hh;exact p
  refine opE func136 ntmps136 results136 ?_ (hcl:=⟨rfl,rfl,j1 n d i c⟩) (hco:=λc'=>⟨rfl,j1 n d i c',rfl⟩);repeat'(first|(refine Υ hlen λhb=>?_;conv=>whnf)|refine' aj|refine ab p1 ?_)
  all_goals try first|exact ariA|(exfalso;omega)|exact absurd ‹_› he
  exact aI ⟨c,rfl,⟨rfl,rfl,trivial⟩,rfl⟩
 ·obtain⟨X,eX⟩:∃X,X=iw n d i D 1 [a] z [] c:=⟨_,rfl⟩;have hX:kD n d i D 0 [a] z [] l 0 c=X:=by rw[eX];exact(wu (ch:=[a]) (r:=0) ho c).symm
  rw[<-eX];rw[ho]at p1;have hl3:=qh h hd hi ω ho;suffices hh:∃x,x=X/\q0c 136 [.lptr 912 0,ints [a],z.av,slc 5 Spl.cells default []] [(912,.box (f7 n d i)),(909,.box (cT c))] (.tup []) [(912,.box (f7 n d i)),(909,.box (cT x))] by obtain⟨_,rfl,p⟩:=hh;exact p
  refine opE func136 ntmps136 results136 ?_ (hcl:=⟨rfl,rfl,j1 n d i c⟩) (hco:=λc'=>⟨rfl,j1 n d i c',rfl⟩);repeat'(first|(refine Υ hlen λhb=>?_;conv=>whnf)|refine' aj|refine ab p1 ?_)
  all_goals try exact ariB
  refine ae (ι:={q:Nat×Cand//q.1<=l.length/\kD n d i D 0 [a] z [] l q.1 q.2=X}) [0,1,3,6,8,9,12,89] [6,8,912] [] ⟨(0,c),π _,hX⟩ (λ⟨(j,_),_⟩=>l.length-j) (λ⟨(j,_),_⟩=>[(90,J j)]) (λ⟨(_,c),_⟩=>[(909,some (.box (cT c)))]) ?_ ?_
  ·exact⟨⟨rfl,rfl⟩,sq1,sq1⟩
  ·rintro⟨⟨j,c⟩,hj,hv⟩;conv=>whnf
   dsimp only at hj hv;by_cases hjl:(j:Int)<l.length
   ·have hjn:j<l.length:=ω;obtain⟨o,eo⟩:∃o,o=l.getD j 0:=⟨_,rfl⟩;have eo2:l.getD (j:Int).toNat 0=o:=by rw[eo];rfl
    have hin:ah o:=by
     have:=hl3.2 o (by rw[eo];exact a9 hjn);unfold ah;omega
    have p2:q0d 53 [n.av,aK d,J i,J (1:Nat),J (l.getD (j:Int).toNat 0)] (ay (bn n d i 1 o)):=by
     rw[eo2];exact pM n d h hw hd i 1 hi ω o hin
    rw[sj hjn,<-eo]at hv;rcases hc:bn n d i 1 o with e|y
    ·have he:=nO h hw hd hi ω hc;rw[nQ (ch:=[a]) (by rw[show([a]:List Int).length=0+1 from rfl,qg,Hl hc])]at hv;have hv:kD n d i D 0 [a] z [] l (j+1) c=X:=hv;rw[hc]at p2;repeat'(first|(refine Λ hjl λhb=>?_;conv=>whnf)|(exact aJ [] ⟨(j+1,c),hjn,hv⟩)|refine' aj|refine ab p2 ?_)
     all_goals try first|exact ariA|(exfalso;omega)|exact absurd ‹_› he
    ·have hy:=fe h hw hd hi ω hc;rw[hc]at p2;have p8:=si;have p6:=Gk z y hz hy;rcases hp:bY z y with e|p
     ·obtain rfl:=lL (mK hp);rw[nQ (ch:=[a]) (by rw[show([a]:List Int).length=0+1 from rfl,qg,show((0:Nat)==0)=true from rfl,zQ hc];dsimp only;rw[hp])]at hv;have hv:kD n d i D 0 [a] z [] l (j+1) c=X:=hv;rw[hp]at p6;repeat'(first|(refine Λ hjl λhb=>?_;conv=>whnf)|(exact aJ [] ⟨(j+1,c),hjn,hv⟩)|refine' aj|refine ab p2 ?_|refine ab p8 ?_|refine ab p6 ?_)
      all_goals try exact ariB
     ·have hk:ax p.res:=(dH hz hy (lK hp).1).1;have po:=Gl hk;have p7:=pZ [a] (φ:1<=1/\1<=17592186044416);rw[tU (ch:=[a]) (y:=p.res) (qs:=[p]) (by rw[show([a]:List Int).length=0+1 from rfl,qg,show((0:Nat)==0)=true from rfl,zQ hc];dsimp only;rw[hp];rfl)]at hv;rw[hp]at p6;have p5:q0c 136 ([.lptr 912 0]++.isl 2 1 (λi=>bif Nat.beq i 0 then[J a]else[J (l.getD (j:Int).toNat 0)])::[p.res.av,.isl 1 5 λ_=>Spl.cells p]) [(912,.box (f7 n d i)),(909,.box (cT c))] (.tup []) [(912,.box (f7 n d i)),(909,.box (cT (iw n d i D 0 [a,o] p.res [p] c)))]:=by
       rw[eo2];exact Eu (hrec o p.res p hk hin) c
      repeat'(first|(refine Λ hjl λhb=>?_;conv=>whnf)|(exact aJ [] ⟨(j+1,iw n d i D 0 [a,o] p.res [p] c),hjn,hv⟩)|(refine az [0,1,3,6,8,9,12,14,89,90] [6,8,912,909] [] [(15,.lptr 15 0),(17,.osl 149 1)] [(15,some (.box p.res.cells)),(149,some (.arr 1 5 (λ_=>Spl.cells p) 65))] ⟨⟨rfl,rfl⟩,?_,?_⟩ ?_;(solve|((refine' subP)<;>first|exact q0b rfl (λi hi=>(by obtain rfl:i=0:=ω;rfl))|exact sq1));(solve|((refine' subP)<;>first|exact q0b rfl (λi hi=>(by obtain rfl:i=0:=ω;rfl))|exact sq1));(conv=>whnf);(refine a7 149 rfl rfl (λ_ _=>rfl) ?_ ?_ ?_;(solve|try refine' frzZ);(solve|try refine' frzZ));(conv=>whnf))|refine' aj|refine ab p2 ?_|refine ab p8 ?_|refine ab p6 ?_|refine ab po ?_|(refine iB p7 rfl ?_;conv=>whnf)|(refine mP [.lptr 912 0] [p.res.av,.isl 1 5 λ_=>Spl.cells p] p5 rfl rfl rfl ⟨rfl,rfl,trivial⟩ ⟨trivial,trivial,trivial,trivial⟩ (ξ _) (λi hi=>(by rcases(ω:i=0\/i=1)with rfl|rfl<;>rfl)) (λi hi=>(by rcases(ω:i=0\/i=1)with rfl|rfl<;>rfl)) ?_;conv=>whnf))
      all_goals try first|exact ariA|(exfalso;omega)|exact⟨ξ _,aO ω rfl⟩
   ·obtain rfl:j=l.length:=ω;rw[wt]at hv;repeat'(first|(refine Υ hjl λhb=>?_;conv=>whnf)|refine' aj|fail)
    all_goals try exact ariB
    exact aI ⟨c,rfl,⟨rfl,rfl,trivial⟩,hv⟩
end Go.Nc