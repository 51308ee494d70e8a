/- Parts. -/
import Derived.Test.YtbdkgpcdkalfdaaGreatNdOPA
import Derived.Test.YtbdkgpcdkalfdaaGreatNdADA
import Derived.Test.YtbdkgpcdkalfdaaGreatNdBNA
namespace Go.Nc
open Go.Proofs.Tryz
open Go.Proofs
set_option maxHeartbeats 8000000
abbrev asC(s:Int):Curve:=⟨[0,100+s],1,1⟩
theorem ET{s:Int}(h:s=0\/s=9):Gd (asC s):=by
 rcases h with rfl|rfl;all_goals exact⟨rfl,λv H=>by simp only[List.mem_cons,List.not_mem_nil,or_false]at H;unfold cx;omega⟩
theorem EU{s:Int}(H:s=0\/s=9)(t:Nat):(asC s).at t=if t=0 then 0 else 99+s+(t:Int):=by
 have h:=aZ (F:=λt:Nat=>(asC s).at t) (s:=1) (p:=1) (inc:=1) (λt a=>gr (aY (ET H).1) (ET H).2 (t:=t) (by show 2<=t+1;omega));by_cases e:t=0
 .subst e;rfl
 .rw[if_neg e];have:=h (t-1) 1 (π 1);rw[(Z:1+(t-1)*1=t)]at this;rw[this,show(asC s).at ((1:Nat):Int)=100+s from rfl];omega
def AsQ(s:Int)(a:Curve):Prop:=Gd a/\∀t:Nat,a.at t=(asC s).at t
theorem as_ln{s:Int}(H:s = 0 \/ s = 9){F:Nat -> Int}(h:∀ t:Nat,F t = (asC s).at t):Ln F:=⟨1,π 1,fun t a=>by
 rw[h,h,EU H,EU H,if_neg Z,if_neg Z];omega⟩
theorem Hd{s:Int}(b:s=0\/s=9):∃a,gR ac s.toNat=.ok a/\AsQ s a:=by
 have h:=(ou ac (v:=s.toNat) (by rcases b with rfl|rfl<;>decide) Eb).of (H:=λt:Nat=>(asC s).at t) λt=>by
  unfold bc;rw[EU b];split
  .rfl
  .rw[Ec,if_neg Z];rcases b with rfl|rfl
   .show(99:Int)+((t+0:Nat):Int)=99+0+t;omega
   .show(99:Int)+((t+9:Nat):Int)=99+9+t;omega
 obtain⟨a,e⟩:=bU (ET b) h;rw[e]at h;exact⟨a,e,h.gd λs' t c=>b5 (ET b) s' t c,h.2.2.1⟩
theorem HV{s:Int}(H:s=0\/s=9){c:Curve}(h:AsQ s c):∃z,y1 (ao 0) c=.ok z/\AsQ s z:=by
 have g:Gd (ao 0):=aR η;obtain⟨a,b,p,q,r⟩:=sy (ao 0) c g h.1;rw[if_pos (Ln.com (Ln.line 0 η) (as_ln H h.2) p q)]at r;obtain⟨z,e⟩:=bU (ET H) (r.of λt=>by rw[jO,h.2];omega);have i:SumE (ao 0) c (.ok z):=e▸sy (ao 0) c;obtain⟨d,f⟩:=i.gd g h.1;exact⟨z,e,d,λt=>by rw[f,jO,h.2];omega⟩
theorem as_dev{s:Int}(H:s=0\/s=9){v:Nat}(c:(v:Int)=if s=0 then 9 else 10){z:Curve}(g:AsQ s z){sz:List Sz}{D:Except Int eK}(h:SrvS ⟨1,10,1,[],[]⟩ 0 [z] sz D):∃w,D=.ok (false,(v:Int),w):=by
 unfold SrvS at h;rw[if_pos rfl]at h;have G:Gd (ao 0):=aR η;obtain⟨y,E,f⟩:=HV H g;rw[show totC (λi=>[z].getD i c0) [z].length=.ok y from((sy (ao 0) z).eq G g.1).symm.trans E]at h;dsimp only at h;obtain⟨_,a,b,K,p,k⟩:=h;rw[if_pos (Ln.com (as_ln H f.2) (Ln.line 10 η) K p)]at k;have m:HDev (λt=>y.at t) (λt=>(ao 10).at t) v:=by
  refine⟨λt=>?_,.inr ⟨1,v,Nat.add_comm _ _,?_⟩⟩
  .dsimp only;rw[f.2,EU H,ca 10 η];split<;>rcases H with rfl|rfl
   .omega
   .omega
   .rw[if_pos rfl]at c;omega
   .rw[if_neg η]at c;omega
  .dsimp only;rw[f.2,EU H,ca 10 η,if_neg η];rcases H with rfl|rfl
   .rw[if_pos rfl]at c;omega
   .rw[if_neg η]at c;omega
 rcases D with e|⟨i,u,w⟩
 .exact k.elim
 .obtain⟨j,l⟩:=k;dsimp only at j l;cases i with
  |true=>
   obtain⟨t,o⟩:=j rfl v;have:=m.1 t;dsimp only at this o;omega
  |false=>
   obtain⟨V,d⟩:=l rfl;have e:=HDev.unique (λs t n=>by rw[ca 10 η,ca 10 η];omega) d m;obtain rfl:u=(v:Int):=Z;exact⟨w,rfl⟩
theorem qN{a b:Int}(e:0 <= a/\a <= 400)(hb:0 <= b/\b <= 400):ShapeOk n2 [[a],[b]]:=⟨rfl,fun i h=>by
 have H:i<2:=h;rcases(Z:i=0\/i=1)with rfl|rfl<;>rfl,λi j h d=>by
 have H:i<2:=h;rcases(Z:i=0\/i=1)with rfl|rfl
 .have c:j<1:=d;obtain rfl:j=0:=Z;exact(⟨Z,e.2⟩:-1<=a/\a<=400)
 .have c:j<1:=d;obtain rfl:j=0:=Z;exact(⟨Z,hb.2⟩:-1<=b/\b<=400)⟩
theorem EV{s a b:Int}(L:Nat)(t:L<2)(d:s=0\/s=9){v:Nat}(g:(v:Int)=if s=0 then 9 else 10)(o:ShapeOk n2 [[a],[b]])(hb:dR n2 [[a],[b]] L 0=gR ac s.toNat):gD n2 [[a],[b]] L 0=.ok (v:Int):=by
 obtain⟨c,E,n⟩:=Hd d;obtain⟨z,m,j⟩:=HV d n;have f:a8 n2 L ((0:Nat):Int)=[0]:=by rcases(Z:L=0\/L=1)with rfl|rfl<;>decide
 have hcl:E2 n2 [[a],[b]] L ((0:Nat):Int)=.ok z:=by
  unfold E2;rw[f];unfold dk bP;rw[hb,E];dsimp only;rw[m];rfl
 have H:n2.lines.getD ((L:Int)).toNat default=ln2:=by rcases(Z:L=0\/L=1)with rfl|rfl<;>rfl
 have e:dr n2 [[a],[b]] L (n2.lines.getD ((L:Int)).toNat default).classes.toNat=.ok [z]:=by
  rw[H];show dr n2 [[a],[b]] L 1=_;unfold dr;rw[show dr n2 [[a],[b]] L 0=.ok []from rfl,hcl];rfl
 obtain⟨Q,r⟩:=nL (k:=0) wJ o (L:=(L:Int)) ⟨Z,by show(L:Int)<((2:Nat):Int);omega⟩ (by rw[H];decide) e;have h:=(jR Q r).1.2.2 (fun i p=>by
  obtain rfl:i=0:=by simp at p;omega
  exact j.1)
 rw[H]at h;obtain⟨w,l⟩:=as_dev d g j h;unfold gD iY;rw[f,if_neg η,e];dsimp only;rw[H,l];have q:¬(400:Int)<v:=by split at g<;>omega
 show(if false=true\/400<(v:Int)then Except.error 5 else Except.ok (v:Int))=_;rw[if_neg (by simp;omega)]
theorem EW(a b:Int):dR n2 [[a],[b]] ((0:Nat):Int) 0=gR ac (0:Int).toNat:=rfl
theorem EX{a:Int}(h:a=0\/a=9)(b:Int):dR n2 [[a],[b]] ((1:Nat):Int) 0=gR ac a.toNat:=by
 rcases h with rfl|rfl<;>rfl
theorem qO{a b:Int}(h:a=0\/a=9)(hb:0<=b/\b<=400){v:Nat}(f:(v:Int)=if a=0 then 9 else 10):fO n2 [[a],[b]]=[[9],[(v:Int)]]:=by
 have H:=qN (a:=a) (b:=b) (by rcases h with rfl|rfl<;>decide) hb;have c:=EV (v:=9) 0 η (.inl rfl) rfl H (EW a b);have d:=EV (v:=v) 1 η h f H (EX h b);have e:jZ n2 [[a],[b]] 0 0=9:=by
  unfold jZ;rw[c];rfl
 have E:jZ n2 [[a],[b]] 1 0=(v:Int):=by
  unfold jZ;rw[d]
 show[[jZ n2 [[a],[b]] 0 0],[jZ n2 [[a],[b]] 1 0]]=_;rw[e,E]
theorem yD{x:Int}(d:0<=x):yb n2 λi c=>0<=kx [[9],[x]] i c:=λi c a H _=>by
 have b:i<2:=a;rcases(Z:i=0\/i=1)with rfl|rfl
 .have h:(c:Int)<1:=H;obtain rfl:c=0:=Z;exact(by decide:(0:Int)<=9)
 .have h:(c:Int)<1:=H;obtain rfl:c=0:=Z;exact d
theorem He:j2 n2 (bM n2) 10 (some ([[9],[10]],3)):=by
 have b:bM n2 0=[[0],[0]]:=rfl;have s:bM n2 1=[[9],[9]]:=by
  show fO _ (bM _ 0)=_;rw[b];exact qO (v:=9) (.inl rfl) η rfl
 have S:bM n2 2=[[9],[10]]:=by
  show fO _ (bM _ 1)=_;rw[s];exact qO (v:=10) (.inr rfl) η rfl
 have a:bM n2 3=[[9],[10]]:=by
  show fO _ (bM _ 2)=_;rw[S];exact qO (v:=10) (.inr rfl) η rfl
 have h:=λ(x:Int)=>yD (x:=x);refine⟨η,η,a.symm,λj H c=>?_,?_,?_⟩
 .rcases(Z:j=1\/j=2)with rfl|rfl
  .refine⟨by rw[s];exact h _ η,?_⟩;show bM _ 0≠bM _ 1;rw[b,s];decide
  .refine⟨by rw[S];exact h _ η,?_⟩;show bM _ 1≠bM _ 2;rw[s,S];decide
 .rw[a];exact h _ η
 .show bM _ 2=bM _ 3;rw[S,a]
theorem EY:q0e 14 [n2.av,J 10] (DL (some ([[9],[10]],3))):=by
 obtain⟨x,h,p⟩:=wK n2 wJ uA 10 η η;obtain rfl:=h.uniq He;exact p
theorem Jk:f7 n2 [[9],[10]] = true:=cg.2 ⟨⟨⟨wJ,uA⟩,qN η η⟩,by
 have e:=qO (a:=9) (b:=10) (v:=10) (.inr rfl) η rfl;rw[show fO n2 [[9],[10]]=[[9],[10]]from e];exact⟨yD η,λi c h H d=>⟨yD η i c h H d,Int.le_refl _⟩⟩⟩
structure Bnd where
 found:Bool
 value:Int
 meth:Int
 choice:List Int
abbrev eh:=Bnd×List Spl
def nT:Bnd:=⟨false,0,0,[]⟩
def dg(c:eh)(x:Bnd)(ps:List Spl):eh:=if c.1.found=false\/x.value<c.1.value then(x,ps)else c
def tryX(D:Curve->Except Int eK)(c:eh)(p:List Int×Curve×List Spl):eh:=match dS (D p.2.1)with
 |.ok v=>dg c ⟨true,v,2,p.1⟩ p.2.2
 |.error _=>c
noncomputable def ko(n:Net)(d:Xa)(i k:Nat)(last:Bool)(o:Int):Except Int Curve:=match bq n d i k o with
 |.error e=>.error e
 |.ok z=>if last then .ok z else n4 z ((n.flows.getD i default).most-1)
noncomputable def gI(n:Net)(d:Xa)(i k:Nat)(last:Bool)(z:Curve)(ps:List Spl)(o:Int):Option (Curve×List Spl):=match ko n d i k last o with
 |.error _=>none
 |.ok y=>if k=0 then some (y,ps)else match bY z y with
  |.error _=>none
  |.ok p=>some (p.res,ps++[p])
noncomputable def pf(n:Net)(d:Xa)(i:Nat):Nat->List Int->Curve->List Spl->List (List Int×Curve×List Spl)
 |0,ch,z,ps=>[(ch,z,ps)]
 |r+1,ch,z,ps=>match dd n d i ch.length with
  |.error _=>[]
  |.ok l=>l.flatMap λo=>match gI n d i ch.length (r==0) z ps o with
   |none=>[]
   |some y=>pf n d i r (ch++[o]) y.1 y.2
noncomputable def eA(n:Net)(d:Xa)(i:Nat)(D:Curve->Except Int eK)(r:Nat)(ch:List Int)(z:Curve)(ps:List Spl)(c:eh):eh:=(pf n d i r ch z ps).foldl (tryX D) c
theorem j7(c:eh)(x:Bnd)(ps:List Spl)(h:x.found=true):(dg c x ps).1.found=true:=by
 unfold dg;split
 .exact h
 .rename_i g;cases hf:c.1.found with
  |true=>rfl
  |false=>exact absurd (.inl hf) g
theorem qP(c:eh)(x:Bnd)(ps:List Spl):(dg c x ps).1.value<=x.value/\(c.1.found=true->(dg c x ps).1.value<=c.1.value):=by
 unfold dg;split
 .rename_i g;refine⟨Int.le_refl _,λh=>?_⟩;rcases g with g|g
  .rw[h]at g;cases g
  .exact Int.le_of_lt g
 .rename_i g;exact⟨by have:=λh=>g (.inr h);omega,λ_=>Int.le_refl _⟩
theorem qQ(c:eh)(x:Bnd)(ps:List Spl):dg c x ps=(x,ps)\/dg c x ps=c:=by
 unfold dg;split
 .exact .inl rfl
 .exact .inr rfl
theorem EZ(D:Curve->Except Int eK)(c:eh)(p:List Int×Curve×List Spl)(h:c.1.found=true):(tryX D c p).1.found=true/\(tryX D c p).1.value<=c.1.value:=by
 unfold tryX;split
 .exact⟨j7 _ _ _ rfl,(qP _ _ _).2 h⟩
 .exact⟨h,Int.le_refl _⟩
theorem yE(D:Curve->Except Int eK):∀(l:List (List Int×Curve×List Spl)) (c:eh),
  (c.1.found=true->(l.foldl (tryX D) c).1.found=true/\(l.foldl (tryX D) c).1.value<=c.1.value)/\
  (∀p∈l,∀v,dS (D p.2.1)=.ok v->(l.foldl (tryX D) c).1.found=true/\(l.foldl (tryX D) c).1.value<=v)/\
  (l.foldl (tryX D) c=c\/∃p∈l,∃v,dS (D p.2.1)=.ok v/\l.foldl (tryX D) c=(⟨true,v,2,p.1⟩,p.2.2))
 |[],c=>⟨λh=>⟨h,Int.le_refl _⟩,λp H=>by simp at H,.inl rfl⟩
 |q::l,c=>by
  obtain⟨d,f,b⟩:=yE D l (tryX D c q);rw[List.foldl_cons];refine⟨λh=>?_,λp H v a=>?_,?_⟩
  .obtain⟨k,g⟩:=EZ D c q h;obtain⟨K,i⟩:=d k;exact⟨K,Z⟩
  .rcases List.mem_cons.1 H with e|H
   .subst e;have E:tryX D c p=dg c ⟨true,v,2,p.1⟩ p.2.2:=by unfold tryX;rw[a]
    have k:(tryX D c p).1.found=true:=by rw[E];exact j7 _ _ _ rfl
    have g:(tryX D c p).1.value<=v:=by rw[E];exact(qP _ _ _).1
    obtain⟨K,i⟩:=d k;exact⟨K,Z⟩
   .exact f p H v a
  .rcases b with b|⟨p,H,v,a,e⟩
   .rw[b];unfold tryX;rcases a:dS (D q.2.1)with e|v
    .exact .inl rfl
    .dsimp only;rcases qQ c ⟨true,v,2,q.1⟩ q.2.2 with e|e
     .exact .inr ⟨q,by simp,v,a,e⟩
     .exact .inl e
   .exact .inr ⟨p,List.mem_cons_of_mem _ H,v,a,e⟩
theorem dh{n:Net}{d:Xa}{i r:Nat}{ch:List Int}{z:Curve}{ps:List Spl}{l:List Int}(h:dd n d i ch.length=.ok l) :
  pf n d i (r+1) ch z ps=l.flatMap λo=>match gI n d i ch.length (r==0) z ps o with
   |none=>[]
   |some y=>pf n d i r (ch++[o]) y.1 y.2:=by
 show(match dd n d i ch.length with |.error _=>[]|.ok l=>_)=_;rw[h]
theorem Av{n:Net}{d:Xa}{i r:Nat}{ch:List Int}{z:Curve}{ps:List Spl}{l:List Int}(h:dd n d i ch.length=.ok l){o:Int}(H:o∈l){y:Curve×List Spl}(a:gI n d i ch.length (r==0) z ps o=some y)
  {q:List Int×Curve×List Spl} (hq:q∈pf n d i r (ch++[o]) y.1 y.2):q∈pf n d i (r+1) ch z ps:=by
 rw[dh h];refine List.mem_flatMap.2 ⟨o,H,?_⟩;rw[a];exact hq
def xb(x:Bnd):List AV:=[.bool x.found,J x.value,J x.meth,c4 x.choice]
def dl(c:eh):List AV:=[.bool c.1.found,J c.1.value,J c.1.meth,c4 c.1.choice,slc 5 Spl.cells default c.2]
theorem wQ(c:eh)(x:Bnd)(ps:List Spl):bx 135 [.lptr 909 0,.agg (xb x),slc 5 Spl.cells default ps] [(909,.box (dl c))] (.tup []) [(909,.box (dl (dg c x ps)))]:=by
 obtain⟨⟨f,v,m,ch⟩,qs⟩:=c;rcases f with _|_
 .rw[show dg (⟨false,v,m,ch⟩,qs) x ps=(x,ps)from if_pos (.inl rfl)];refine ee func135 ntmps135 results135 (λ_ _ _=>?_) (hcl:=⟨rfl,rfl,rfl,bN rfl,bN rfl,rfl⟩);repeat'(first|refine' gg|fail)
  all_goals first|exact Θ|rfl|(exfalso;omega)
 .by_cases h:x.value<v
  .rw[show dg (⟨true,v,m,ch⟩,qs) x ps=(x,ps)from if_pos (.inr h)];refine ee func135 ntmps135 results135 (λ_ _ _=>?_) (hcl:=⟨rfl,rfl,rfl,bN rfl,bN rfl,rfl⟩);repeat'(first|(refine U h λhb=>?_;conv=>whnf)|refine' gg|fail)
   all_goals first|exact Θ|rfl|(exfalso;omega)
  .rw[show dg (⟨true,v,m,ch⟩,qs) x ps=(⟨true,v,m,ch⟩,qs)from if_neg (by rintro(H|H);cases H;exact h H)];refine ee func135 ntmps135 results135 (λ_ _ _=>?_) (hcl:=⟨rfl,rfl,rfl,bN rfl,bN rfl,rfl⟩);repeat'(first|(refine M h λhb=>?_;conv=>whnf)|refine' gg|fail)
   all_goals first|exact Θ|rfl|(exfalso;omega)
open Go.Proofs Go.RowKit
set_option maxRecDepth 100000 in
theorem sY(w:World)(p:Option Addr)(c:Nat):Calls prog 193 #[.slice p 0 c] w λe W=>(∃q,e=.returned (.slice q 0 0))/\Below w.heap.size w W:=by
 have H:=aE 65 _ rfl;have h:prog.underlying 25=some (.slice 65):=(aE 25 _ rfl).slice rfl;have Q:∀(w:World) (a:Option Addr) (n c N C:Nat),(binOp .eql 25 (.slice a n c) (.slice none N C)).run prog w=.ok (.bool a.isNone) w:=λw a n c N C=>Lib.run_eql_slice_nil w _ _ a n c N C h;have u:∀w,Sem.run prog (underlying 25) w=.ok (TypeDesc.slice 65) w:=run_underlying h;cases p with
 |none=>
  go_enter func193,ntmps193
  go_wp2
  go_ret
  exact⟨⟨none,rfl⟩,Below.refl _ _⟩
 |some a=>
  go_enter func193,ntmps193
  go_wp2_with (at_builtin;refine iX rfl _ _ 25 rfl h H _ _ _ rfl rfl ?_)
  go_ret
  exact⟨⟨_,rfl⟩,(Below.refl _ w).alloc (π _) _⟩
theorem BQ(l:List Spl)(H:1<=l.length/\l.length<=1099511627776):q0e 193 [slc 5 Spl.cells default l] (slc 5 Spl.cells default l):=by
 refine ee func193 ntmps193 results193 λ_ _ _=>?_;repeat'(first|refine' gi|(refine b8 [] [] [] [(2,.osl 7 l.length)] [(7,some (.arr l.length 5 (λi=>Spl.cells (l.getD i default)) 65))] ⟨⟨rfl,rfl⟩,?_,?_⟩ (cq 7 rfl rfl (λ_ _=>rfl) ?_ ?_ (du ?_))))
 all_goals try omega
 .skip;all_goals((refine' subP)<;>first|exact fl Z λi h=>rfl|exact bt)
 .skip;all_goals((refine' subP)<;>first|exact Ξ (congrArg (AV.osl 7) Z)|exact bt)
 .all_goals try refine' frzZ
 .exact⟨λi h=>by(repeat'(first|exact True.intro|refine And.intro ?_ ?_)),trivial⟩
 .exact Θ
 .exact⟨Z,HR Z (λ_ _=>rfl)⟩
theorem Fa(l:List Spl)(h:l.length<=1099511627776):q0e 193 [slc 5 Spl.cells default l] (slc 5 Spl.cells default l):=by
 rcases l with _|⟨x,r⟩
 .exact CallSpec.empty (uE func193 rfl (by kernel_rfl)) sY 5 5 _ _
 .exact BQ (x::r) ⟨by simp,h⟩
theorem nx{P:Program}{f:FuncId}(us v:List AV){o:Xd}{k:List Nat->AV->Xb->Prop}{r:AV}{id n m sz T:Nat}{G g:Nat->List AV}{I outs:Xc}(h:CallSpec P f (us++.isl n sz G::v) I r outs)
  (a:e7 I id=none) (b:e7 outs id=none) (p:o id=some (.arr m sz g T)) (d:dT o I) (H:fI o ((id,.arr m sz g T)::I) ((id,.dead)::outs)) (e:n<=m) (j:∀i,i<n->g i=G i) (c:∀i,i<m->ka [] (g i)=true)
  (l:k (((id,LObj.arr m sz g T)::I).map (·.1)++((id,LObj.dead)::outs).map (·.1)) r (bg ((id,.dead)::outs))):vCall P f (us++.osl id n::v) o k :=
 ⟨r,_,_,h.thaw id e j c a b,⟨p,d⟩,H,l⟩
theorem Fb{P:Program}{f:FuncId}(n:∀(X:Array Value) (w:World),(callFunc f X).run P w=.ok (.enter f X) w)
  (h:∀(w:World) (p:Option Addr) (c:Nat),Calls P f #[.slice p 0 c] w λe W=>(∃q,e=.returned (.slice q 0 0))/\Below w.heap.size w W) (sz:Nat) (g:Nat->List AV):CallSpec P f [.isl 0 sz g] [] .emp []:=by
 refine⟨n,λid ob h=>(by cases h),λid ob h=>(by cases h),λw ρ Im X t u=>?_⟩;obtain⟨p,c,rfl⟩:∃p c,X= #[.slice p 0 c]:=by
  obtain⟨d,j⟩:=u;obtain⟨x,rfl⟩:∃x,X= #[x]:=by
   obtain⟨l⟩:=X;match l,d with
   |[x],_=>exact⟨x,rfl⟩
  have k:=j 0 _ x rfl rfl;rcases k.isl_inv with⟨_,p,rfl⟩|⟨b,v,cap,a,T,fr,rfl,_⟩
  .exact⟨p,0,rfl⟩
  .exact⟨_,cap,rfl⟩
 refine(h w p c).mono λe W hb=>?_;obtain⟨⟨q,rfl⟩,hb⟩:=hb;refine⟨_,ρ,Im,rfl,.imm _ _ (.emp q),λi o=>(by cases o),?_⟩;refine ⟨fun id ob h=>(by cases h),fun id ob b h=>(by cases h),fun id I ob O b h=>(by cases h),fun id ob h=>(by cases h),fun b m=>Nat.lt_of_lt_of_le (t.imlt b m) hb.size,fun _ h=>h,fun _ h=>.inl h,
  hb.os,hb.tape,hb.output,hb.size,λb H _=>hb.block b H,λid h=>(by cases h),λl r h=>⟨r.state,r.pending,?_⟩,λl h=>(by cases h)⟩
 have s:l<w.heap.size:=(Array.getElem?_eq_some_iff.1 h).1;rw[hb.block l s];exact h
theorem BR:q0e 159 [c4 []] .emp:=Fb (uE func159 rfl (by kernel_rfl)) BO 1 _
theorem sZ:q0e 193 [slc 5 Spl.cells default []] .emp:=Fb (uE func193 rfl (by kernel_rfl)) sY 5 _
def fG(n:Net)(d:Xa)(i:Nat):List AV:=n.cells++[aF d,J i,.lptr 909 0]
def wR(n:Net)(d:Xa)(i:Nat)(D:Curve->Except Int eK)(r:Nat)(ch:List Int)(z:Curve)(ps:List Spl):Prop :=
 ∀c:eh,bx 136 [.lptr 912 0,c4 ch,z.av,slc 5 Spl.cells default ps] [(912,.box (fG n d i)),(909,.box (dl c))] (.tup []) [(912,.box (fG n d i)),(909,.box (dl (eA n d i D r ch z ps c)))]
theorem cl2{l:Xc}{a b:Nat×LObj}(h:l=[a,b])(c:eu (l.map (·.1)) a.2)(hb:eu (l.map (·.1)) b.2):∀p∈l,eu (l.map (·.1)) p.2:=by
 subst h;intro p H;simp only[List.mem_cons,List.not_mem_nil,or_false]at H;rcases H with rfl|rfl
 .exact c
 .exact hb
theorem wS(n:Net)(d:Xa)(h:NetOk n)(i:Nat)(o:i<n.flows.length)(D:Curve->Except Int eK)(j:DelF (n.flows.getD i default).con D)(ch:List Int)(l:ch.length=(n.flows.getD i default).route.length)(z:Curve)(k:a6 z)(ps:List Spl)(r:ps.length<=10):wR n d i D 0 ch z ps:=by
 intro c;have m:=h.flen;have g:FlowOk n.lines (n.flows.getD i default):=h.flow _ (by simp[o]);have q:=g.ne;have H:(ch.length:Int)=(n.flows.getD (i:Int).toNat default).route.length:=by rw[β];omega
 have P:=j.spec z k;have f:=j.err z;have t:=iv ch Z;have u:=Fa ps Z;show CallSpec _ _ _ _ _ [_,(909,.box (dl (tryX D c (ch,z,ps))))];unfold tryX;dsimp only;have hcl:∀c:eh,∀p∈[(912,LObj.box (fG n d i)),(909,.box (dl c))],eu ([(912,LObj.box (fG n d i)),(909,.box (dl c))].map (·.1)) p.2:=λc=>cl2 rfl rfl rfl;rcases hx:D z with e|⟨b,v,w⟩
 .have f:=f e k hx;rw[hx]at P;show CallSpec _ _ _ _ _ [_,(909,.box (dl c))];refine ee func136 ntmps136 results136 (λ_ _ _=>?_) (hcl:=⟨rfl,rfl,rfl,hcl c,hcl c,rfl⟩);repeat'(first|(refine U H λhb=>?_;conv=>whnf)|refine' ak|(refine bu ⟨?_,rfl,rfl,trivial⟩;conv=>whnf))
  all_goals first|exact absurd ‹_› f|exact Θ|exact⟨rfl,rfl,trivial⟩|rfl|omega|(exfalso;omega)
 .rw[hx]at P;by_cases a:b=true\/2000<v
  .rw[show dS (.ok (b,v,w))=.error 5 from if_pos a];dsimp only;rcases b with _|_
   .have a:¬v<=2000:=by
     rcases a with a|a
     .cases a
     .omega
    refine ee func136 ntmps136 results136 (λ_ _ _=>?_) (hcl:=⟨rfl,rfl,rfl,hcl c,hcl c,rfl⟩);repeat'(first|(refine M a λhb=>?_;conv=>whnf)|(refine U H λhb=>?_;conv=>whnf)|refine' ak|(refine bu ⟨?_,rfl,rfl,trivial⟩;conv=>whnf))
    all_goals first|exact Θ|exact⟨rfl,rfl,trivial⟩|rfl|omega|(exfalso;omega)
   .refine ee func136 ntmps136 results136 (λ_ _ _=>?_) (hcl:=⟨rfl,rfl,rfl,hcl c,hcl c,rfl⟩);repeat'(first|(refine U H λhb=>?_;conv=>whnf)|refine' ak|(refine bu ⟨?_,rfl,rfl,trivial⟩;conv=>whnf))
    all_goals first|exact Θ|exact⟨rfl,rfl,trivial⟩|rfl|omega|(exfalso;omega)
  .rw[show dS (.ok (b,v,w))=.ok v from if_neg a];dsimp only;rcases b with _|_
   .have a:v<=2000:=by
     have:=λh=>a (.inr h);omega
    have s:=wQ c ⟨true,v,2,ch⟩ ps;refine ee func136 ntmps136 results136 (λ_ _ _=>?_) (hcl:=⟨rfl,rfl,rfl,hcl c,hcl _,rfl⟩);repeat'(first|(refine U a λhb=>?_;conv=>whnf)|(refine U H λhb=>?_;conv=>whnf)|refine' ak|(refine bu ⟨?_,rfl,rfl,trivial⟩;conv=>whnf)|refine bT s ?_)
    all_goals first|exact Θ|exact⟨rfl,rfl,trivial⟩|rfl|omega|(exfalso;omega)
   .exact absurd (.inl rfl) a
theorem Nf{sz:Nat}{g:Nat -> List AV}:AvLe .emp (.isl 0 sz g):=⟨fun _ _ _ _ h=>by
 cases h with
 |imm _ _ h=>cases h with
  |emp p=>exact .imm _ _ (.isl0 _ _ _)⟩
theorem Hf(o:Int):∀i,i<1->[J o]=[J (([o]:List Int).getD i 0)]:=λi h=>by
 obtain rfl:i=0:=Z;rfl
theorem j8{n:Net}{d:Xa}{i:Nat}{last:Bool}{z:Curve}{ps:List Spl}{o:Int}:gI n d i 0 last z ps o=match ko n d i 0 last o with
 |.error _=>none
 |.ok y=>some (y,ps):=rfl
theorem n5{n:Net}{d:Xa}{i k:Nat}{last:Bool}{z:Curve}{ps:List Spl}{o:Int}:gI n d i (k+1) last z ps o=match ko n d i (k+1) last o with
 |.error _=>none
 |.ok y=>match bY z y with
  |.error _=>none
  |.ok p=>some (p.res,ps++[p]):=rfl
theorem HW{n:Net}{d:Xa}{i k:Nat}{last:Bool}{o e:Int}(h:bq n d i k o=.error e):ko n d i k last o=.error e:=by
 unfold ko;rw[h]
theorem Aw{n:Net}{d:Xa}{i k:Nat}{o:Int}{y:Curve}(h:bq n d i k o=.ok y):ko n d i k true o=.ok y:=by
 unfold ko;rw[h];rfl
theorem Fc{n:Net}{d:Xa}{i k:Nat}{o:Int}{y:Curve}(h:bq n d i k o=.ok y):ko n d i k false o=n4 y ((n.flows.getD i default).most-1):=by
 unfold ko;rw[h];rfl
noncomputable def NI(n:Net)(d:Xa)(i r:Nat)(ch:List Int)(z:Curve)(ps:List Spl)(o:Int):List (List Int×Curve×List Spl):=match gI n d i ch.length (r==0) z ps o with
 |none=>[]
 |some y=>pf n d i r (ch++[o]) y.1 y.2
theorem oD{n:Net}{d:Xa}{i r:Nat}{ch:List Int}{z:Curve}{ps:List Spl}{o:Int}(h:gI n d i ch.length (r==0) z ps o=none):NI n d i r ch z ps o=[]:=by
 unfold NI;rw[h]
theorem uI{n:Net}{d:Xa}{i r:Nat}{ch:List Int}{z y:Curve}{ps qs:List Spl}{o:Int}(h:gI n d i ch.length (r==0) z ps o=some (y,qs)):NI n d i r ch z ps o=pf n d i r (ch++[o]) y qs:=by
 unfold NI;rw[h]
noncomputable def kU(n:Net)(d:Xa)(i:Nat)(D:Curve->Except Int eK)(r:Nat)(ch:List Int)(z:Curve)(ps:List Spl)(l:List Int)(j:Nat)(c:eh):eh:=((l.drop j).flatMap (NI n d i r ch z ps)).foldl (tryX D) c
theorem ta{n:Net}{d:Xa}{i:Nat}{D:Curve->Except Int eK}{r:Nat}{ch:List Int}{z:Curve}{ps:List Spl}{l:List Int}{j:Nat}(h:j<l.length)(c:eh) :
  kU n d i D r ch z ps l j c=kU n d i D r ch z ps l (j+1) ((NI n d i r ch z ps (l.getD j 0)).foldl (tryX D) c):=by
 unfold kU;rw[bS h,List.flatMap_cons,List.foldl_append]
theorem wT{n:Net}{d:Xa}{i:Nat}{D:Curve->Except Int eK}{r:Nat}{ch:List Int}{z:Curve}{ps:List Spl}{l:List Int}(c:eh):kU n d i D r ch z ps l l.length c=c:=by
 unfold kU;rw[List.drop_length];rfl
theorem wU{n:Net}{d:Xa}{i:Nat}{D:Curve->Except Int eK}{r:Nat}{ch:List Int}{z:Curve}{ps:List Spl}{l:List Int}(h:dd n d i ch.length=.ok l)(c:eh):eA n d i D (r+1) ch z ps c=kU n d i D r ch z ps l 0 c:=by
 unfold eA kU;rw[dh h,List.drop_zero];rfl
theorem wV{n:Net}{d:Xa}{i:Nat}{D:Curve->Except Int eK}{r:Nat}{ch:List Int}{z:Curve}{ps:List Spl}{e:Int}(h:dd n d i ch.length=.error e)(c:eh):eA n d i D (r+1) ch z ps c=c:=by
 unfold eA pf;rw[h];rfl
theorem j9(n:Net)(d:Xa)(i:Nat)(c:eh):∀p∈[(912,LObj.box (fG n d i)),(909,.box (dl c))],eu ([(912,LObj.box (fG n d i)),(909,.box (dl c))].map (·.1)) p.2:=cl2 rfl rfl rfl
theorem wW{n:Net}{d:Xa}{i:Nat}{D:Curve->Except Int eK}{r:Nat}{o:Int}{y:Curve}(h:wR n d i D r [o] y [])(c:eh) :
  bx 136 ([.lptr 912 0]++.isl 1 1 (λ_=>[J o])::[y.av,.emp]) [(912,.box (fG n d i)),(909,.box (dl c))] (.tup []) [(912,.box (fG n d i)),(909,.box (dl (eA n d i D r [o] y [] c)))] :=
 (h c).arg (.cons Θ (.cons (kd rfl (Hf o)) (.cons Θ (.cons Nf .nil))))
theorem yF{n:Net}{d:Xa}(h:NetOk n)(b:ShapeOk n d){i k:Nat}(j:i<n.flows.length)(c:k<(n.flows.getD i default).route.length){l:List Int}(e:dd n d i k=.ok l):(1<=l.length/\l.length<=3)/\∀x∈l,0<=x/\x<=401:=by
 have H:FlowOk n.lines (n.flows.getD i default):=h.flow _ (by simp[j]);have o:=H.lines _ (a9 (l:=(n.flows.getD i default).route) (i:=k) c);have p:=H.cls2 _ (a9 (l:=(n.flows.getD i default).route) (i:=k) c);have m:=H.cls;have q:=b.row ((n.flows.getD i default).route.getD k 0).toNat Z;have f:=b.val ((n.flows.getD i default).route.getD k 0).toNat (n.flows.getD i default).class_.toNat Z Z;unfold dd at e;split at e
 .cases e
 .rename_i g;obtain⟨v,E⟩:∃v,v=(d.getD ((n.flows.getD i default).route.getD k 0).toNat []).getD (n.flows.getD i default).class_.toNat 0:=⟨_,rfl⟩;rw[<-E]at e f g;cases e;unfold K3;split
  .refine⟨by simp,λx a=>?_⟩;simp only[List.mem_cons,List.not_mem_nil,or_false]at a;omega
  .refine⟨by simp,λx a=>?_⟩;simp only[List.mem_cons,List.not_mem_nil,or_false]at a;omega
theorem Hg(a b:Int):∀i,i<2->(bif Nat.beq i 0 then[J a]else[J b])=[J (([a,b]:List Int).getD i 0)]:=λi h=>by
 rcases(Z:i=0\/i=1)with rfl|rfl<;>rfl
theorem Jl(p:Spl):∀i,i<1->Spl.cells p=Spl.cells (([p]:List Spl).getD i default):=λi h=>by
 obtain rfl:i=0:=Z;rfl
theorem Fd{n:Net}{d:Xa}{i:Nat}{D:Curve->Except Int eK}{a o:Int}{y:Curve}{p:Spl}(h:wR n d i D 0 [a,o] y [p])(c:eh) :
  bx 136 ([.lptr 912 0]++.isl 2 1 (λi=>bif Nat.beq i 0 then[J a]else[J o])::[y.av,.isl 1 5 λ_=>Spl.cells p]) [(912,.box (fG n d i)),(909,.box (dl c))] (.tup []) [(912,.box (fG n d i)),(909,.box (dl (eA n d i D 0 [a,o] y [p] c)))] :=
 (h c).arg (.cons Θ (.cons (kd rfl (Hg a o)) (.cons Θ (.cons (kd rfl (Jl p)) .nil))))
theorem HX(n:Net)(d:Xa)(h:NetOk n)(G:NamesOk n)(u:ShapeOk n d)(i:Nat)(g:i<n.flows.length)(D:Curve->Except Int eK)(r:Nat)(K:(n.flows.getD i default).route.length=r+1)(z:Curve)
  (m:∀o y,a6 y->ah o->wR n d i D r [o] y []):wR n d i D (r+1) [] z []:=by
 intro c;have R:=h.flen;have w:FlowOk n.lines (n.flows.getD i default):=h.flow _ (by simp[g]);have hsz:=w.sizes;have V:=w.ne;have L:=DZ n d h u i 0 g Z;obtain⟨f,ef⟩:∃f,f=n.flows.getD i default:=⟨_,rfl⟩;have k:¬((([]:List Int).length:Nat):Int)=(n.flows.getD (i:Int).toNat default).route.length:=by rw[β,K];simp;omega
 rcases ho:dd n d i 0 with e|l
 .have v:e≠0:=by
   unfold dd at ho;split at ho<;>cases ho;decide
  rw[wV (ch:=[]) (r:=r) ho];rw[ho]at L;suffices B:∃x,x=c/\bx 136 [.lptr 912 0,c4 [],z.av,slc 5 Spl.cells default []] [(912,.box (fG n d i)),(909,.box (dl c))] (.tup []) [(912,.box (fG n d i)),(909,.box (dl x))] by obtain⟨_,rfl,p⟩:=B;exact p
  refine dp func136 ntmps136 results136 ?_ (hcl:=⟨rfl,rfl,j9 n d i c⟩) (hco:=λC=>⟨rfl,j9 n d i C,rfl⟩);repeat'(first|(refine M k λhb=>?_;conv=>whnf)|refine' aj|fail)
  all_goals try first|exact bs|(exfalso;omega)|exact absurd ‹_› v
  exact aK ⟨c,rfl,⟨rfl,rfl,trivial⟩,rfl⟩
 .obtain⟨X,I⟩:∃X,X=eA n d i D (r+1) [] z [] c:=⟨_,rfl⟩;have Q:kU n d i D r [] z [] l 0 c=X:=by rw[I];exact(wU (ch:=[]) (r:=r) ho c).symm
  rw[<-I];rw[ho]at L;have F:=yF h u g Z ho;suffices B:∃x,x=X/\bx 136 [.lptr 912 0,c4 [],z.av,slc 5 Spl.cells default []] [(912,.box (fG n d i)),(909,.box (dl c))] (.tup []) [(912,.box (fG n d i)),(909,.box (dl x))] by obtain⟨_,rfl,p⟩:=B;exact p
  refine dp func136 ntmps136 results136 ?_ (hcl:=⟨rfl,rfl,j9 n d i c⟩) (hco:=λC=>⟨rfl,j9 n d i C,rfl⟩);repeat'(first|(refine M k λhb=>?_;conv=>whnf)|refine' aj|fail)
  all_goals try exact ariB
  refine ae (ι:={q:Nat×eh//q.1<=l.length/\kU n d i D r [] z [] l q.1 q.2=X}) [0,1,3,6,8,9,12,89] [6,8,912] [] ⟨(0,c),χ _,Q⟩ (λ⟨(j,_),_⟩=>l.length-j) (λ⟨(j,_),_⟩=>[(90,J j)]) (λ⟨(_,c),_⟩=>[(909,some (.box (dl c)))]) ?_ ?_
  .exact⟨⟨rfl,rfl⟩,bt,bt⟩
  .rintro⟨⟨j,c⟩,S,H⟩;conv=>whnf
   dsimp only at S H;by_cases b:(j:Int)<l.length
   .have a:j<l.length:=Z;obtain⟨o,A⟩:∃o,o=l.getD j 0:=⟨_,rfl⟩;have E:l.getD (j:Int).toNat 0=o:=by rw[A];rfl
    have s:ah o:=by
     have:=F.2 o (by rw[A];exact a9 a);unfold ah;omega
    have N:q0e 53 [n.av,aF d,J i,J (0:Nat),J (l.getD (j:Int).toNat 0)] (ax (bq n d i 0 o)):=by
     rw[E];exact qz n d h G u i 0 g Z o s
    have hz0:(([]:List Int).length:Int)=0:=rfl;have W:((n.flows.getD (i:Int).toNat default).route.length:Int)=r+1:=by rw[β,K];rfl
    rw[ta a,<-A]at H;rcases hc:bq n d i 0 o with e|y
    .have v:=mr h G u g Z hc;rw[oD (ch:=[]) (by rw[show([]:List Int).length=0 from rfl,j8,HW hc])]at H;have H:kU n d i D r [] z [] l (j+1) c=X:=H;rw[hc]at N;repeat'(first|(refine U b λhb=>?_;conv=>whnf)|(exact aI [] ⟨(j+1,c),a,H⟩)|refine' aj|fail)
     all_goals try first|exact bs|(exfalso;omega)|exact absurd ‹_› v
    .have t:=fv h G u g Z hc;rw[hc]at N;have p7:=BR;have p8:=sZ;rcases r with _|r
     .rw[uI (ch:=[]) (y:=y) (qs:=[]) (by rw[show([]:List Int).length=0 from rfl,j8,show((0:Nat)==0)=true from rfl,Aw hc])]at H;have P:bx 136 ([.lptr 912 0]++.isl 1 1 (λ_=>[J (l.getD (j:Int).toNat 0)])::[y.av,.emp]) [(912,.box (fG n d i)),(909,.box (dl c))] (.tup []) [(912,.box (fG n d i)),(909,.box (dl (eA n d i D 0 [o] y [] c)))]:=by
       rw[E];exact wW (m o y t s) c
      repeat'(first|(refine U b λhb=>?_;conv=>whnf)|(exact aI [] ⟨(j+1,eA n d i D 0 [o] y [] c),a,H⟩)|refine' aj|(refine nx [.lptr 912 0] [y.av,.emp] P rfl rfl rfl ⟨rfl,rfl,trivial⟩ ⟨trivial,trivial,trivial,trivial⟩ (π _) (λi g=>(by obtain rfl:i=0:=Z;rfl)) (λi g=>(by obtain rfl:i=0:=Z;rfl)) ?_;conv=>whnf))
      all_goals try first|exact bs|(exfalso;omega)|exact⟨π _,aL Z rfl⟩
     .have O:=HO y t (n.flows.getD i default).most Z;rcases hx:n4 y ((n.flows.getD i default).most-1)with e|y
      .have v:=nr t hx;subst v;rw[oD (ch:=[]) (by rw[show([]:List Int).length=0 from rfl,j8,show(r+1==0)=false from rfl,Fc hc,hx])]at H;have H:kU n d i D (r+1) [] z [] l (j+1) c=X:=H;rw[hx]at O;repeat'(first|(refine U b λhb=>?_;conv=>whnf)|(exact aI [] ⟨(j+1,c),a,H⟩)|refine' aj|fail)
       all_goals try exact ariB
      .have t:=wG t hx;rw[uI (ch:=[]) (y:=y) (qs:=[]) (by rw[show([]:List Int).length=0 from rfl,j8,show(r+1==0)=false from rfl,Fc hc,hx])]at H;rw[hx]at O;have P:bx 136 ([.lptr 912 0]++.isl 1 1 (λ_=>[J (l.getD (j:Int).toNat 0)])::[y.av,.emp]) [(912,.box (fG n d i)),(909,.box (dl c))] (.tup []) [(912,.box (fG n d i)),(909,.box (dl (eA n d i D (r+1) [o] y [] c)))]:=by
        rw[E];exact wW (m o y t s) c
       repeat'(first|(refine U b λhb=>?_;conv=>whnf)|(exact aI [] ⟨(j+1,eA n d i D (r+1) [o] y [] c),a,H⟩)|refine' aj|(refine nx [.lptr 912 0] [y.av,.emp] P rfl rfl rfl ⟨rfl,rfl,trivial⟩ ⟨trivial,trivial,trivial,trivial⟩ (π _) (λi g=>(by obtain rfl:i=0:=Z;rfl)) (λi g=>(by obtain rfl:i=0:=Z;rfl)) ?_;conv=>whnf))
       all_goals try first|exact bs|(exfalso;omega)|exact⟨π _,aL Z rfl⟩
   .obtain rfl:j=l.length:=Z;rw[wT]at H;repeat'(first|(refine M b λhb=>?_;conv=>whnf)|refine' aj|fail)
    all_goals try exact ariB
    exact aK ⟨c,rfl,⟨rfl,rfl,trivial⟩,H⟩
theorem M2(n:Net)(d:Xa)(h:NetOk n)(F:NamesOk n)(m:ShapeOk n d)(i:Nat)(f:i<n.flows.length)(D:Curve->Except Int eK)(V:(n.flows.getD i default).route.length=2)(a:Int)(z:Curve)(L:a6 z)
  (t:∀o y p,a6 y->ah o->wR n d i D 0 [a,o] y [p]):wR n d i D 1 [a] z []:=by
 intro c;have R:=h.flen;have w:FlowOk n.lines (n.flows.getD i default):=h.flow _ (by simp[f]);have hsz:=w.sizes;have P:=DZ n d h m i 1 f Z;have hz1:(([a]:List Int).length:Int)=1:=rfl;have W:((n.flows.getD (i:Int).toNat default).route.length:Int)=2:=by rw[β,V];rfl
 have k:¬((([a]:List Int).length:Nat):Int)=(n.flows.getD (i:Int).toNat default).route.length:=Z;rcases ho:dd n d i 1 with e|l
 .have v:e≠0:=by
   unfold dd at ho;split at ho<;>cases ho;decide
  rw[wV (ch:=[a]) (r:=0) ho];rw[ho]at P;suffices A:∃x,x=c/\bx 136 [.lptr 912 0,c4 [a],z.av,slc 5 Spl.cells default []] [(912,.box (fG n d i)),(909,.box (dl c))] (.tup []) [(912,.box (fG n d i)),(909,.box (dl x))] by obtain⟨_,rfl,p⟩:=A;exact p
  refine dp func136 ntmps136 results136 ?_ (hcl:=⟨rfl,rfl,j9 n d i c⟩) (hco:=λC=>⟨rfl,j9 n d i C,rfl⟩);repeat'(first|(refine M k λhb=>?_;conv=>whnf)|refine' aj|fail)
  all_goals try first|exact bs|(exfalso;omega)|exact absurd ‹_› v
  exact aK ⟨c,rfl,⟨rfl,rfl,trivial⟩,rfl⟩
 .obtain⟨X,G⟩:∃X,X=eA n d i D 1 [a] z [] c:=⟨_,rfl⟩;have Q:kU n d i D 0 [a] z [] l 0 c=X:=by rw[G];exact(wU (ch:=[a]) (r:=0) ho c).symm
  rw[<-G];rw[ho]at P;have B:=yF h m f Z ho;suffices A:∃x,x=X/\bx 136 [.lptr 912 0,c4 [a],z.av,slc 5 Spl.cells default []] [(912,.box (fG n d i)),(909,.box (dl c))] (.tup []) [(912,.box (fG n d i)),(909,.box (dl x))] by obtain⟨_,rfl,p⟩:=A;exact p
  refine dp func136 ntmps136 results136 ?_ (hcl:=⟨rfl,rfl,j9 n d i c⟩) (hco:=λC=>⟨rfl,j9 n d i C,rfl⟩);repeat'(first|(refine M k λhb=>?_;conv=>whnf)|refine' aj|fail)
  all_goals try exact ariB
  refine ae (ι:={q:Nat×eh//q.1<=l.length/\kU n d i D 0 [a] z [] l q.1 q.2=X}) [0,1,3,6,8,9,12,89] [6,8,912] [] ⟨(0,c),χ _,Q⟩ (λ⟨(j,_),_⟩=>l.length-j) (λ⟨(j,_),_⟩=>[(90,J j)]) (λ⟨(_,c),_⟩=>[(909,some (.box (dl c)))]) ?_ ?_
  .exact⟨⟨rfl,rfl⟩,bt,bt⟩
  .rintro⟨⟨j,c⟩,S,H⟩;conv=>whnf
   dsimp only at S H;by_cases g:(j:Int)<l.length
   .have b:j<l.length:=Z;obtain⟨o,u⟩:∃o,o=l.getD j 0:=⟨_,rfl⟩;have E:l.getD (j:Int).toNat 0=o:=by rw[u];rfl
    have s:ah o:=by
     have:=B.2 o (by rw[u];exact a9 b);unfold ah;omega
    have N:q0e 53 [n.av,aF d,J i,J (1:Nat),J (l.getD (j:Int).toNat 0)] (ax (bq n d i 1 o)):=by
     rw[E];exact qz n d h F m i 1 f Z o s
    rw[ta b,<-u]at H;rcases hc:bq n d i 1 o with e|y
    .have v:=mr h F m f Z hc;rw[oD (ch:=[a]) (by rw[show([a]:List Int).length=0+1 from rfl,n5,HW hc])]at H;have H:kU n d i D 0 [a] z [] l (j+1) c=X:=H;rw[hc]at N;repeat'(first|(refine U g λhb=>?_;conv=>whnf)|(exact aI [] ⟨(j+1,c),b,H⟩)|refine' aj|fail)
     all_goals try first|exact bs|(exfalso;omega)|exact absurd ‹_› v
    .have K:=fv h F m f Z hc;rw[hc]at N;have p8:=sZ;have O:=GS z y L K;rcases hp:bY z y with e|p
     .obtain rfl:=mn (nq hp);rw[oD (ch:=[a]) (by rw[show([a]:List Int).length=0+1 from rfl,n5,show((0:Nat)==0)=true from rfl,Aw hc];dsimp only;rw[hp])]at H;have H:kU n d i D 0 [a] z [] l (j+1) c=X:=H;rw[hp]at O;repeat'(first|(refine U g λhb=>?_;conv=>whnf)|(exact aI [] ⟨(j+1,c),b,H⟩)|refine' aj|fail)
      all_goals try exact ariB
     .have I:a6 p.res:=(dL L K (ml hp).1).1;have po:=GT I;have p7:=qM [a] (η:1<=1/\1<=17592186044416);rw[uI (ch:=[a]) (y:=p.res) (qs:=[p]) (by rw[show([a]:List Int).length=0+1 from rfl,n5,show((0:Nat)==0)=true from rfl,Aw hc];dsimp only;rw[hp];rfl)]at H;rw[hp]at O;have p5:bx 136 ([.lptr 912 0]++.isl 2 1 (λi=>bif Nat.beq i 0 then[J a]else[J (l.getD (j:Int).toNat 0)])::[p.res.av,.isl 1 5 λ_=>Spl.cells p]) [(912,.box (fG n d i)),(909,.box (dl c))] (.tup []) [(912,.box (fG n d i)),(909,.box (dl (eA n d i D 0 [a,o] p.res [p] c)))]:=by
       rw[E];exact Fd (t o p.res p I s) c
      repeat'(first|(refine U g λhb=>?_;conv=>whnf)|(exact aI [] ⟨(j+1,eA n d i D 0 [a,o] p.res [p] c),b,H⟩)|(refine az [0,1,3,6,8,9,12,14,89,90] [6,8,912,909] [] [(15,.lptr 15 0),(17,.osl 149 1)] [(15,some (.box p.res.cells)),(149,some (.arr 1 5 (λ_=>Spl.cells p) 65))] ⟨⟨rfl,rfl⟩,?_,?_⟩ ?_;(solve|((refine' subP)<;>first|exact fl rfl (λi f=>(by obtain rfl:i=0:=Z;rfl))|exact bt));(solve|((refine' subP)<;>first|exact fl rfl (λi f=>(by obtain rfl:i=0:=Z;rfl))|exact bt));(conv=>whnf);(refine a7 149 rfl rfl (λ_ _=>rfl) ?_ ?_ ?_;(solve|try refine' frzZ);(solve|try refine' frzZ));(conv=>whnf))|refine' aj|(refine jL p7 rfl ?_;conv=>whnf)|(refine nx [.lptr 912 0] [p.res.av,.isl 1 5 λ_=>Spl.cells p] p5 rfl rfl rfl ⟨rfl,rfl,trivial⟩ ⟨trivial,trivial,trivial,trivial⟩ (π _) (λi f=>(by rcases(Z:i=0\/i=1)with rfl|rfl<;>rfl)) (λi f=>(by rcases(Z:i=0\/i=1)with rfl|rfl<;>rfl)) ?_;conv=>whnf))
      all_goals try first|exact bs|(exfalso;omega)|exact⟨π _,aL Z rfl⟩
   .obtain rfl:j=l.length:=Z;rw[wT]at H;repeat'(first|(refine M g λhb=>?_;conv=>whnf)|refine' aj|fail)
    all_goals try exact ariB
    exact aK ⟨c,rfl,⟨rfl,rfl,trivial⟩,H⟩
end Go.Nc