/- Parts. -/
import Derived.Test.YtbdkgpcdkalfdaaGreatNdALB
namespace Go.Nc
open Go.Proofs.Tryz
open Go.Proofs
set_option maxHeartbeats 8000000
theorem ms{l:List Line}{f:Flow}(h:FlowOk l f)(g:l.length<=2):f.route.length<=2:=by
 have d:=h.nodup;have H:=h.lines;obtain⟨R,e⟩:∃R,R=f.route:=⟨_,rfl⟩;rw[<-e]at d H⊢;clear e;rcases R with _|⟨a,_|⟨b,_|⟨c,r⟩⟩⟩
 .decide
 .exact Nat.le_succ 1
 .exact π 2
 .have i:=H a ν;have hb:=H b ν;have j:=H c ν;simp only[List.nodup_cons,List.mem_cons,not_or]at d;omega
theorem Hh(n:Net)(d:Xa)(h:NetOk n)(f:NamesOk n)(e:ShapeOk n d)(c:n.lines.length<=2)(i:Nat)(a:i<n.flows.length)(D:Curve->Except Int eK)(k:DelF (n.flows.getD i default).con D)(z:Curve) :
  wR n d i D (n.flows.getD i default).route.length [] z []:=by
 have b:FlowOk n.lines (n.flows.getD i default):=h.flow _ (by simp[a]);have m:=b.ne;have l:=ms b c;rcases(Z:(n.flows.getD i default).route.length=1\/(n.flows.getD i default).route.length=2)with H|H
 .rw[H];exact HX n d h f e i a D 0 H z λo y g _=>wS n d h i a D k [o] (by rw[H];rfl) y g [] η
 .rw[H];exact HX n d h f e i a D 1 H z λo y g _=>M2 n d h f e i a D H o y g λO q p j _=>wS n d h i a D k [o,O] (by rw[H];rfl) q j [p] (by decide:1<=10)
def Ki(o:Option Int)(m:Int)(c:eh):eh:=match o with
 |some v=>dg c ⟨true,v,m,[]⟩ []
 |none=>c
noncomputable def eE(n:Net)(d less:Xa)(D:Nat->Curve->Except Int eK)(i:Nat):eh :=
 Ki (re n less i) 3 (eA n d i (D i) (n.flows.getD i default).route.length [] c0 [] (Ki (re n d i) 1 (nT,[])))
theorem tc(c:eh)(v m:Int):bx 135 [.lptr 909 0,.agg [.bool true,J v,J m,.nils],.nils] [(909,.box (dl c))] (.tup []) [(909,.box (dl (dg c ⟨true,v,m,[]⟩ [])))] :=
 (wQ c ⟨true,v,m,[]⟩ []).arg (.cons Θ (.cons (AvLe.agg (.cons Θ (.cons Θ (.cons Θ (.cons AvLe.nils .nil))))) (.cons AvLe.nils .nil)))
theorem Fe(n:Net)(d less:Xa)(h:NetOk n)(b:NamesOk n)(a:ShapeOk n d)(l:pt n less)(H:n.lines.length<=2)(i:Nat)(g:i<n.flows.length)(D:Nat->Curve->Except Int eK)(f:DelF (n.flows.getD i default).con (D i)) :
  q0e 71 [n.av,aF d,aF less,J i] (.agg (dl (eE n d less D i))):=by
 have k:pt n d:=⟨⟨h,b⟩,a⟩;have P:=HQ n d i;have j:=HQ n less i;unfold eE;obtain⟨c,e⟩:∃c,c=Ki (re n d i) 1 (nT,[]):=⟨_,rfl⟩;rw[<-e];have p:=(Hh n d h b a H i g (D i) f c0 c).arg (us:=[.lptr 912 0,.nils,.agg [.nils,J 0,J 0],.nils]) (.cons Θ (.cons AvLe.nils (.cons (AvLe.agg (.cons AvLe.nils (.cons Θ (.cons Θ .nil)))) (.cons AvLe.nils .nil))));obtain⟨C,E⟩:∃C,C=eA n d i (D i) (n.flows.getD i default).route.length [] c0 [] c:=⟨_,rfl⟩;rw[<-E]at p⊢;rcases h1:re n d i with _|v<;>rcases h2:re n less i with _|w;all_goals
  rw[h1]at P e;rw[h2]at j;have e:c=_:=e;subst e;have q:=tc (nT,[]);have Q:=tc C;refine ee func71 ntmps71 results71 λ_ _ _=>?_;repeat'(first|(refine aT [1,2,3,4,8,9] [4,8,909] [(912,12)] [(12,.lptr 912 0)] [(912,some (.box (fG n d i)))] ⟨⟨rfl,rfl⟩,bt,bt⟩ ?_;conv=>whnf)|(refine aT [0,1,2,3,4,8] [4,8] [(909,9)] [(9,.lptr 909 0)] [(909,some (.box (dl (nT,[]))))] ⟨⟨rfl,rfl⟩,?_,?_⟩ ?_;(solve|((refine' subP)<;>first|exact ObLe.box (.cons Θ (.cons Θ (.cons Θ (.cons AvLe.nils (.cons AvLe.nils .nil)))))|exact bt));(solve|((refine' subP)<;>first|exact ObLe.box (.cons Θ (.cons Θ (.cons Θ (.cons AvLe.nils (.cons AvLe.nils .nil)))))|exact bt));conv=>whnf)|refine' ak|(refine bT ((q _ 1)) ?_)|(refine nv p ⟨rfl,rfl,trivial⟩ ⟨trivial,trivial,trivial⟩ ?_;conv=>whnf)|(refine bT ((Q _ 3)) ?_))
  all_goals first|exact Θ|exact bs
instance:Inhabited Bnd:=⟨nT⟩
theorem HY(n:Net)(h:NetOk n):∃D:Nat->Curve->Except Int eK,∀i,i<n.flows.length->DelF (n.flows.getD i default).con (D i)/\DelX (n.flows.getD i default).con (D i):=by
 have key:∀i,∃D,i<n.flows.length->DelF (n.flows.getD i default).con D/\DelX (n.flows.getD i default).con D:=λi=>by
  by_cases a:i<n.flows.length
  .have H:FlowOk n.lines (n.flows.getD i default):=h.flow _ (by simp[a]);obtain⟨D,b⟩:=Jb (n.flows.getD i default).con ⟨H.valid,H.con_fin⟩;exact⟨D,λ_=>b⟩
  .exact⟨λ_=>.error 0,λh=>absurd h a⟩
 exact⟨λi=>Classical.choose (key i),λi=>Classical.choose_spec (key i)⟩
theorem n6(n:Net)(d:Xa)(h:NetOk n)(b:NamesOk n)(a:ShapeOk n d)(H:n.lines.length<=2):q0e 70 [n.av,aF d] (aF (fc n d)):=by
 obtain⟨_,rfl,p⟩:=ES n d h b a H;exact p
noncomputable def iU(n:Net)(d less:Xa)(D:Nat->Curve->Except Int eK)(k:Nat):List Bnd:=(List.range k).map λi=>(eE n d less D i).1
theorem jA(n:Net)(d less:Xa)(D:Nat->Curve->Except Int eK)(k:Nat):(iU n d less D k).length=k:=by simp[iU]
theorem td(n:Net)(d less:Xa)(D:Nat->Curve->Except Int eK)(k:Nat):iU n d less D (k+1)=iU n d less D k++[(eE n d less D k).1]:=by simp[iU,List.range_succ]
theorem Ff:ND prog 116 0:=by unfold ND;kernel_rfl
theorem all_e(n:Net)(d:Xa)(k:f7 n d=true)(H:n.lines.length<=2)(D:Nat->Curve->Except Int eK)(o:∀i,i<n.flows.length->DelF (n.flows.getD i default).con (D i)) :
  ∃l,l=iU n d (fc n d) D n.flows.length/\q0e 30 [n.av,aF d] (.tup [slc 4 xb default l,J 0]):=by
 have r:=(cg.1 k).1;obtain⟨⟨h,c⟩,f⟩:=id r;have m:pt n (fc n d):=⟨⟨h,c⟩,i8 h c f⟩;have P:=kQ n d;rw[k]at P;have s:=h.flen;have t:=n6 n d h c f H;obtain⟨less,E⟩:∃less,less=fc n d:=⟨_,rfl⟩;rw[<-E]at t m⊢;refine dp func30 ntmps30 results30 ?_;repeat'(first|refine' aj|fail)
 all_goals try exact bs
 refine⟨aV (λ_ _ _=>bQ 7 100 4 75 rfl rfl rfl) (ae (ι:={j:Nat//j<=n.flows.length}) [1,2,6,18] [2] [] ⟨0,χ _⟩ (λ⟨j,_⟩=>n.flows.length-j) (λ⟨j,_⟩=>[(7,.osl 100 j),(19,J j)]) (λ⟨j,_⟩=>[(100,some (.arr j 4 (ey xb default (iU n d less D j)) 75))]) ?_ ?_).good⟩
 .refine⟨⟨rfl,rfl⟩,?_,?_⟩;all_goals((refine' subP)<;>first|exact fl rfl (ψ)|exact bt)
 .rintro⟨j,v⟩;conv=>whnf
  by_cases b:(j:Int)<n.flows.length
  .have w:=Fe n d less h c f m H j Z D (o j Z);have g:=jA n d less D j;have a:∀q,q<j+1->∀e,(q=j->e=xb (eE n d less D j).1)->(bif Nat.blt q j then ey xb default (iU n d less D j) q else e)=ey xb default (iU n d less D (j+1)) q:=λq hq e p=>by
    rw[td];exact b9 xb default _ _ g.symm q hq e p
   repeat'(first|(refine U b λhb=>?_;conv=>whnf)|(refine' aO [(100,30)] ⟨j+1,Z⟩<;>first|exact fl rfl (λq hq=>a q hq _ (λe=>by rw[e,Nat.sub_self];rfl))|exact bt)|refine' aj|fail)
   all_goals try first|with_reducible exact Ff|exact bs|exact⟨π _,aL Z rfl⟩
  .obtain rfl:j=n.flows.length:=Z;repeat'(first|(refine M b λhb=>?_;conv=>whnf)|refine' aj|fail)
   all_goals try exact bs
   refine aW [4,5] [100] [] [] [] ⟨⟨rfl,rfl⟩,?_,?_⟩ (aX 100 rfl rfl (λ_ _=>rfl) ?_ ?_ (bO ?_))
   .skip;all_goals exact bt
   .skip;all_goals exact bt
   .all_goals try refine' frzZ
   .all_goals try refine' frzZ
   .conv=>whnf
    exact⟨iU n d less D n.flows.length,AvLe.tup (.cons (kd (jA n d less D _).symm λi u=>rfl) (.cons Θ .nil)),rfl⟩
theorem Fg(n:Net)(d:Xa)(c:f7 n d=true)(H:n.lines.length<=2)(D:Nat->Curve->Except Int eK)(i:Nat)(j:i<n.flows.length)(e:DelF (n.flows.getD i default).con (D i)) :
  q0e 34 [n.av,aF d,J i] (.tup [.agg (xb (eE n d (fc n d) D i).1),slc 5 Spl.cells default (eE n d (fc n d) D i).2,J 0]):=by
 have f:=(cg.1 c).1;obtain⟨⟨h,a⟩,b⟩:=id f;have k:pt n (fc n d):=⟨⟨h,a⟩,i8 h a b⟩;have p:=kQ n d;rw[c]at p;have g:=h.flen;have P:=n6 n d h a b H;have l:=Fe n d (fc n d) h a b k H i j D e;refine' db func34 ntmps34 results34
 all_goals first|exact Θ|omega|(exfalso;omega)|exact ε
theorem mw{n:Net}{i:Nat}(h:i<n.flows.length){x:Int}(H:x∈(n.flows.getD i default).route):(i:Int)∈a8 n x (n.flows.getD i default).class_:=by
 rw[rn];refine List.mem_filter.2 ⟨pI n x i ((vC (Int.le_refl 0)).2 H) _ h,?_⟩;rw[β];exact decide_eq_true rfl
theorem Ax(d:Xa)(k:Nat)(g:k<2):∃z,nS n2 d 0 k 0=.ok z/\NrmC z/\∀t:Nat,z.fn t=10*t:=by
 have key:∀ L:Int,(L = 0 \/ L = 1) -> ∃ z,(match dK n2 d 0 L 0 with
  |.error e=>.error e
  |.ok o=>match C7 n2 d L 0 with
   |.error e=>.error e
   |.ok b=>fJ b o 0)=Except.ok z/\NrmC z/\∀t:Nat,z.fn t=10*t:=λL h=>by
  have E:dK n2 d 0 L 0=.ok (ao 0):=by
   unfold dK;rw[show l9 n2 L 0=[0]from by rcases h with rfl|rfl<;>decide];rw[jS];unfold E5;rw[if_pos η];rfl
  have a:C7 n2 d L 0=.ok (ao 10):=by
   unfold C7;rcases h with rfl|rfl<;>rfl
  rw[E,a];dsimp only;obtain ⟨z,c,H,f⟩:=y7 (x:=fJ (ao 10) (ao 0) 0) (by
   unfold fJ;rw[dif_pos ⟨aR η,aR η⟩];exact(Classical.choose_spec (i5 (ao 10) (ao 0) (aR η) (aR η) 0)).1)
  exact⟨z,c,H,f⟩
 unfold nS;rcases(Z:k=0\/k=1)with rfl|rfl
 .exact key 0 (.inl rfl)
 .exact key 1 (.inr rfl)
theorem Jm:∃p,([1,1],c10,[p])∈pf n2 [[9],[10]] 0 2 [] c0 []:=by
 obtain⟨y,b,N,F⟩:=Ax [[9],[10]] 0 η;obtain⟨z,c,n,f⟩:=Ax [[9],[10]] 1 η;have E:bq n2 [[9],[10]] 0 0 1=.ok y:=b;have a:bq n2 [[9],[10]] 0 1 1=.ok z:=c;have j:na y.fn 0=g10:=funext λt=>by
  unfold na g10;by_cases e:t=0
  .rw[if_pos e,e];rfl
  .rw[if_neg e,F];omega
 have l:=Ev n (s:=0) (i:=10) ⟨π 1,λt _=>by rw[f,f];omega⟩;have k:bE c10 z=.ok c10:=by
  rw[gW y9 n,l,if_pos η];have e:cF c10.fn z.fn=g10:=funext λt=>by
   obtain⟨s,u,q,d⟩:=gG c10.fn z.fn t;have g:=iQ c10.fn z.fn (s:=t) (u:=0) (t:=t) Z;rw[Eu,f]at d g;rw[Eu];unfold g10 at *;omega
  rw[e];exact y8.eq.symm
 obtain⟨p,H,h⟩:∃p,bY c10 z=.ok p/\p.res=c10:=by
  unfold bY;rw[k];exact⟨_,rfl,rfl⟩
 have O:dd n2 [[9],[10]] 0 ([]:List Int).length=.ok [0,1,10]:=rfl;have m:dd n2 [[9],[10]] 0 ([1]:List Int).length=.ok [0,1,11]:=rfl;refine⟨p,Av (r:=1) O (o:=1) η (y:=(c10,[])) ?_ (Av (r:=0) (ch:=[]++[1]) m (o:=1) η (y:=(p.res,[p])) ?_ ?_)⟩
 .show gI n2 [[9],[10]] 0 0 false c0 [] 1=_;rw[j8,Fc E,sK N,show(n2.flows.getD 0 default).most-1=0 from rfl,j,y8.eq.symm]
 .show gI n2 [[9],[10]] 0 (0+1) true c10 [] 1=_;rw[n5,Aw a];dsimp only;rw[H];rfl
 .rw[h];exact List.mem_singleton.2 rfl
theorem n2_one{q:List Int×Curve×List Spl}(h:q∈pf n2 [[9],[10]] 0 2 [] c0 []):q.2.2.length=1:=by
 have a:dd n2 [[9],[10]] 0 ([]:List Int).length=.ok [0,1,10]:=rfl;rw[dh a]at h;obtain⟨o,_,h⟩:=List.mem_flatMap.1 h;have H:=j8 (n:=n2) (d:=[[9],[10]]) (i:=0) (last:=false) (z:=c0) (ps:=[]) (o:=o);have h:q∈(match gI n2 [[9],[10]] 0 0 false c0 [] o with |none=>[]|some y=>pf n2 [[9],[10]] 0 1 ([]++[o]) y.1 y.2):=h;rw[H]at h;rcases hx:ko n2 [[9],[10]] 0 0 false o with e|y
 .rw[hx]at h;cases h
 .rw[hx]at h;have h:q∈pf n2 [[9],[10]] 0 1 [o] y []:=h;have b:dd n2 [[9],[10]] 0 ([o]:List Int).length=.ok [0,1,11]:=rfl;rw[dh b]at h;obtain⟨O,_,h⟩:=List.mem_flatMap.1 h;have H:=n5 (n:=n2) (d:=[[9],[10]]) (i:=0) (k:=0) (last:=true) (z:=y) (ps:=[]) (o:=O);have h:q∈(match gI n2 [[9],[10]] 0 (0+1) true y [] O with |none=>[]|some y=>pf n2 [[9],[10]] 0 0 ([o]++[O]) y.1 y.2):=h;rw[H]at h;rcases hx2:ko n2 [[9],[10]] 0 (0+1) true O with e|x
  .rw[hx2]at h;cases h
  .rw[hx2]at h;dsimp only at h;rcases hp:bY y x with e|p
   .rw[hp]at h;cases h
   .rw[hp]at h;have h:q∈[([o]++[O],p.res,[]++[p])]:=h;rw[List.mem_singleton.1 h];rfl
theorem Jn{less:Xa}{D:Nat->Curve->Except Int eK}(i:DelX ac (D 0)):(eE n2 [[9],[10]] less D 0).1.found=true/\(eE n2 [[9],[10]] less D 0).1.value<=10/\((eE n2 [[9],[10]] less D 0).1.meth=2->(eE n2 [[9],[10]] less D 0).2.length=1):=by
 obtain⟨p,j⟩:=Jm;have hb:dS (D 0 c10)=.ok 10:=sQ (y:=.ok (false,10,0)) (Ew i).2;unfold eE;obtain⟨C,E⟩:∃C,C=Ki (re n2 [[9],[10]] ((0:Nat):Int)) 1 (nT,[]):=⟨_,rfl⟩;rw[<-E];have g:C.1.meth≠2:=by
  rw[E];unfold Ki;split
  .unfold dg;split
   .show(1:Int)≠2;decide
   .show(0:Int)≠2;decide
  .show(0:Int)≠2;decide
 obtain⟨l,d,k⟩:=yE (D 0) (pf n2 [[9],[10]] 0 2 [] c0 []) C;obtain⟨K,a⟩:=d _ j 10 hb;obtain⟨c,b⟩:∃c,c=(pf n2 [[9],[10]] 0 2 [] c0 []).foldl (tryX (D 0)) C:=⟨_,rfl⟩;rw[<-b]at l d k K a;have f:eA n2 [[9],[10]] 0 (D 0) (n2.flows.getD 0 default).route.length [] c0 [] C=c:=b.symm;rw[f];have H:c.1.meth=2->c.2.length=1:=by
  rcases k with k|⟨q,hq,v,_,e⟩
  .rw[k];exactλh=>absurd h g
  .rw[e];exactλ_=>n2_one hq
 unfold Ki;split
 .rename_i v _;refine⟨j7 _ _ _ rfl,Int.le_trans ((qP c _ []).2 K) a,?_⟩;rcases qQ c ⟨true,v,3,[]⟩ []with e|e
  .rw[e];exactλh=>absurd (show(3:Int)=2 from h) η
  .rw[e];exact H
 .exact⟨K,a,H⟩
theorem Jo:∃_:Unit,True/\q0e 68 [] n2.av:=by
 have p:=rO 100 1 1 η η;refine dp func68 ntmps68 results68 ?_;repeat'(first|refine' aj|fail)
 refine aW [0] [] [] [] [(0,some (.box [.osl 3 2,.osl 6 2,.osl 11 1])),(3,some (.arr 2 1 (ey J6 .empty n2.names) 9)),(6,some (.arr 2 5 (ey Line.cells default n2.lines) 97)),(7,some (.arr 2 1 (ey hP 0 [0,1]) 3)),(11,some (.arr 1 8 (λ_=>n2C) 47))] ⟨⟨rfl,rfl⟩,?_,?_⟩ (aX 7 rfl rfl (λ_ _=>rfl) ?_ ?_ (aX 3 rfl rfl (λ_ _=>rfl) ?_ ?_ (aX 6 rfl rfl (λ_ _=>rfl) ?_ ?_ (aX 11 rfl rfl (λ_ _=>rfl) ?_ ?_ (bO ?_)))))
 .skip;all_goals((refine' subP)<;>first|exact fl rfl (lt1n rfl)|exact fl rfl (OL rfl rfl)|exact obArrL (OL (.cons Θ (.cons Θ (.cons Θ (.cons AvLe.nils (.cons AvLe.nils .nil))))) (.cons Θ (.cons Θ (.cons Θ (.cons AvLe.nils (.cons AvLe.nils .nil))))))|exact bt)
 .skip;all_goals exact bt
 .all_goals try refine' frzZ
 .all_goals try refine' frzZ
 .all_goals try refine' frzZ
 .all_goals try refine' frzZ
 .all_goals try refine' frzZ
 .all_goals try refine' frzZ
 .all_goals try refine' frzZ
 .all_goals try refine' frzZ
 .conv=>whnf
  exact⟨(),AvLe.agg (.cons (kd rfl λi h=>rfl) (.cons (kd rfl λi h=>rfl) (.cons (kd rfl (lt1n rfl)) .nil))),trivial⟩
theorem two31:q0e 68 [] n2.av:=by
 obtain⟨_,_,p⟩:=Jo;exact p
def uJ:Nat->List AV:=λi=>bif Nat.beq i 0 then[.osl 33 1]else[.osl 34 1]
def rv(g G a:Nat->List AV):Xc:=[(33,.arr 1 1 g 3),(34,.arr 1 1 G 3),(35,.arr 2 1 a 22)]
theorem lt1F{p:Nat->Prop}(h:p 0):∀i,i<1->p i:=λi H=>by
 obtain rfl:i=0:=Z;exact h
theorem BS{P:Program}{f:FuncId}{v:AV}{r:AV}{x y:Int}{g G d:Nat->List AV}(E:g 0=hP x)(t:G 0=hP y)(w:d 0=[.osl 33 1])(A:d 1=[.osl 34 1])(h:CallSpec P f [v,aF [[x],[y]]] [] r [])(N:Gi r=true):CallSpec P f [v,.osl 35 2] (rv g G d) r (rv g G d):=by
 have o:∀{id:Nat} {ob:LObj},e7 (rv g G d) id=some ob->(id=33/\ob=.arr 1 1 g 3)\/(id=34/\ob=.arr 1 1 G 3)\/(id=35/\ob=.arr 2 1 d 22):=by
  intro id ob k;have B:=ox k;simp only[rv,List.mem_cons,List.not_mem_nil,or_false,Prod.mk.injEq]at B;exact B
 have O:∀ids i,i<1->ka ids (g i)=true:=λids=>lt1F (by rw[E];rfl);have n2:∀ids i,i<1->ka ids (G i)=true:=λids=>lt1F (by rw[t];rfl);refine h.lendG _ N (λid ob k i a=>?_) (λid ob k=>?_) λρ Im H X q s=>?_
 .refine bJ.2 (dV (ids:=(rv g G d).map (·.1)) ?_ a);rcases o k with⟨_,rfl⟩|⟨_,rfl⟩|⟨_,rfl⟩
  .exact O _
  .exact n2 _
  .exact OL (by rw[w];rfl) (by rw[A];rfl)
 .rcases o k with⟨_,rfl⟩|⟨_,rfl⟩|⟨_,rfl⟩<;>rfl
 .have e:ObjCon ρ Im H 33 (.arr 1 1 (ey hP 0 [x]) 3):=(fl rfl (lt1F E)).con _ _ _ _ (q 33 _ rfl);have m:ObjCon ρ Im H 34 (.arr 1 1 (ey hP 0 [y]) 3):=(fl rfl (lt1F t)).con _ _ _ _ (q 34 _ rfl);have n:ObjCon ρ Im H 35 (.arr 2 1 uJ 22):=(fl rfl (OL w A)).con _ _ _ _ (q 35 _ rfl);have j:=nV e (λi a=>rfl) (u:=.arr 1 1 (ey hP 0 [y]) 3) (λi a=>⟨trivial,trivial⟩) m;have l:=nV e (λi a=>rfl) (u:=.arr 2 1 uJ 22) (λi a=>by unfold uJ;cases Nat.beq i 0<;>exact⟨by first|exact π 1|trivial,trivial⟩) n;have K:=nV j (fun i a=>rfl) (u:=KH 33 (.arr 1 1 (ey hP 0 [x]) 3) (.arr 2 1 uJ 22)) (fun i a=>by
   show o7 34 (KH 33 (.arr 1 1 (ey hP 0 [x]) 3) (.arr 1 1 (ey hP 0 [y]) 3)) (nb 33 (.arr 1 1 (ey hP 0 [x]) 3) (uJ i));unfold uJ;cases Nat.beq i 0<;>exact⟨by first|exact π 1|trivial,trivial⟩) l
  refine⟨s.1,λi c z p C=>?_⟩;match i with
  |0=>
   cases p;exact(s.2 0 _ z rfl C).mono (λb hb=>.inl hb) λ_ _=>rfl
  |1 =>
   cases p;have c0:=s.2 1 (.osl 35 2) z rfl C;have D:=fY e (λi a=>rfl) (.osl 35 2) z trivial c0;have F:=fY j (λi a=>rfl) (.osl 35 2) z trivial D;have I:=fY K (fun i a=>by
    show ka [] (nb 34 _ (nb 33 _ (uJ i)))=true;unfold uJ;cases Nat.beq i 0<;>rfl) (.osl 35 2) z (π 2) F
   have L:=(show AvLe (g0 35 (KH 34 (KH 33 (.arr 1 1 (ey hP 0 [x]) 3) (.arr 1 1 (ey hP 0 [y]) 3)) (KH 33 (.arr 1 1 (ey hP 0 [x]) 3) (.arr 2 1 uJ 22))) (.osl 35 2)) (aF [[x],[y]])from kd rfl (OL rfl rfl)).con _ _ _ _ I;refine L.mono (λb hb=>?_) λ_ _=>rfl;rcases hb with((hb|hb)|hb)|hb
   .exact .inl hb
   .exact .inr ⟨33,_,rfl,hb⟩
   .exact .inr ⟨34,_,rfl,hb⟩
   .exact .inr ⟨35,_,rfl,hb⟩
  |i+2=>cases p
theorem n2_no:f7 n2 [[0],[0]]=false:=by
 cases hc:f7 n2 [[0],[0]]with
 |false=>rfl
 |true=>
  obtain⟨_,h⟩:=cg.1 hc;rw[show fO n2 [[0],[0]]=[[9],[((9:Nat):Int)]]from qO (a:=0) (b:=0) (v:=9) (.inl rfl) η rfl]at h;have:=(h.2 0 0 η η η).2;exact absurd this η
theorem Hi{G a g:Nat->List AV}{x y:Int}(e:G 0=hP x)(E:a 0=hP y)(b:g 0=[.osl 33 1])(c:g 1=[.osl 34 1]):∀p∈rv G a g,eu ((rv G a g).map (·.1)) p.2:=λp h=>by
 simp only[rv,List.mem_cons,List.not_mem_nil,or_false]at h;rcases h with rfl|rfl|rfl
 .exact lt1F (by rw[e];rfl)
 .exact lt1F (by rw[E];rfl)
 .exact OL (by rw[b];rfl) (by rw[c];rfl)
theorem Fh{G a g:Nat->List AV}(e:G 0=hP 0)(E:a 0=hP 0)(b:g 0=[.osl 33 1])(c:g 1=[.osl 34 1]):bx 34 [n2.av,.osl 35 2,J 0] (rv G a g) (.tup [.agg [.bool false,J 0,J 0,.nils],.nils,J 8]) (rv G a g):=by
 have q:=kQ n2 [[0],[0]] ⟨⟨wJ,uA⟩,qN η η⟩;rw[n2_no]at q;have p:=BS e E b c q rfl;have hcl:=Hi e E b c;refine ee func34 ntmps34 results34 (λ_ _ _=>?_) (hcl:=⟨rfl,rfl,rfl,hcl,hcl,rfl⟩);repeat'(first|refine' ak|(refine bu ⟨?_,rfl,rfl,rfl,trivial⟩;conv=>whnf)|(refine bA p ⟨rfl,rfl,rfl,trivial⟩ ⟨trivial,trivial,trivial,trivial⟩ ?_;conv=>whnf))
 all_goals exact Θ
theorem oE(x:Bnd)(H:x.choice.length<=1000):q0e 39 [.agg (xb x),.agg (xb x)] (.bool true):=by
 obtain⟨r,h,p⟩:=Ag x.choice x.choice H;obtain rfl:=h.2 rfl;obtain⟨f,v,m,c⟩:=x;rcases f with _|_;all_goals
  refine' db func39 ntmps39 results39
  all_goals first|exact Θ|(exfalso;omega)
theorem jB{n:Net}{d less:Xa}{D:Nat->Curve->Except Int eK}{i:Nat}{P:List Int->Prop}(H:P [])(h:∀q∈pf n d i (n.flows.getD i default).route.length [] c0 [],P q.1):P (eE n d less D i).1.choice:=by
 unfold eE;have hb:∀(o:Option Int) (m:Int) (c:eh),P c.1.choice->P (Ki o m c).1.choice:=λo m c a=>by
  unfold Ki;split
  .rcases qQ c ⟨true,_,m,[]⟩ []with e|e
   .rw[e];exact H
   .rw[e];exact a
  .exact a
 refine hb _ _ _ ?_;obtain⟨_,_,k⟩:=yE (D i) (pf n d i (n.flows.getD i default).route.length [] c0 []) (Ki (re n d i) 1 (nT,[]));unfold eA;rcases k with k|⟨q,hq,v,_,e⟩
 .rw[k];exact hb _ _ _ H
 .rw[e];exact h q hq
theorem iV{n:Net}{d:Xa}{i:Nat}:∀{r:Nat} {ch:List Int} {z:Curve} {ps:List Spl} {q:List Int×Curve×List Spl},q∈pf n d i r ch z ps->q.1.length=ch.length+r
 |0,ch,z,ps,q,h=>by
  rw[List.mem_singleton.1 h];rfl
 |r+1,ch,z,ps,q,h=>by
  rcases ho:dd n d i ch.length with e|l
  .unfold pf at h;rw[ho]at h;cases h
  .rw[dh ho]at h;obtain⟨o,_,h⟩:=List.mem_flatMap.1 h;rcases hs:gI n d i ch.length (r==0) z ps o with _|y
   .rw[hs]at h;cases h
   .rw[hs]at h;have:=iV h;rw[this];simp;omega
theorem sane31:∃b:Bool,b=true/\q0e 29 [] (.bool b):=by
 have r:=two31;have s:=EY;have d:=Jk;have H:n2.lines.length<=2:=η;obtain⟨D,c⟩:=HY n2 wJ;obtain⟨j,k⟩:=c 0 η;have e:=Fg n2 [[9],[10]] d H D 0 η j;obtain⟨_,rfl,p⟩:=all_e n2 [[9],[10]] d H D λi n=>(c i n).1;obtain⟨b1,a,B⟩:=Jn (less:=fc n2 [[9],[10]]) (D:=D) k;have hcl:(eE n2 [[9],[10]] (fc n2 [[9],[10]]) D 0).1.choice.length<=1000:=jB (P:=λl=>l.length<=1000) η λq hq=>by
  have:=iV hq;rw[this];decide
 have g:=oE _ hcl;rw[show iU n2 [[9],[10]] (fc n2 [[9],[10]]) D n2.flows.length=[(eE n2 [[9],[10]] (fc n2 [[9],[10]]) D 0).1]from rfl]at p;obtain⟨⟨⟨f,v,m,ch⟩,ps⟩,E⟩:∃X,X=eE n2 [[9],[10]] (fc n2 [[9],[10]]) D 0:=⟨_,rfl⟩;rw[<-E]at e p g b1 a B;dsimp only at b1 a B e p g;subst b1;have o:m≠2\/(ps.length:Int)=1:=by
  by_cases h:m=2
  .have:=B h;omega
  .exact .inl h
 refine dp func29 ntmps29 results29 ?_;repeat'(first|refine' aj|(refine bA (Fh rfl rfl rfl rfl) ⟨rfl,rfl,rfl,trivial⟩ ⟨trivial,trivial,trivial,trivial⟩ ?_;conv=>whnf))
 all_goals first|exact ag ⟨true,rfl,rfl⟩|omega|(exfalso;dsimp only at *;omega)|exact ε|(simp only[List.length_singleton];decide)
end Go.Nc