/- Parts. -/
import Derived.Test.YtbdkgpcdkalfdaaGreatNcALB
namespace Go.Nc
open Go.Proofs.Tryz
open Go.Proofs
set_option maxHeartbeats 8000000
theorem Gj(n:Net)(d:List (List Int))(h:NetOk n)(hw:NamesOk n)(hd:ShapeOk n d)(hN2:n.lines.length<=2)(i:Nat)(hi:i<n.flows.length)(D:Curve->Except Int Dev)(hD:DelF (n.flows.getD i default).con D)(z:Curve) :
  vR n d i D (n.flows.getD i default).route.length [] z []:=by
 have hfo:FlowOk n.lines (n.flows.getD i default):=h.flow _ (by simp[hi]);have hne:=hfo.ne;have hle:(n.flows.getD i default).route.length<=2:=by
  have h1:=hfo.nodup;have h2:=hfo.lines;obtain⟨rt,ert⟩:∃rt,rt=(n.flows.getD i default).route:=⟨_,rfl⟩;rw[<-ert]at h1 h2⊢;clear ert hne;rcases rt with _|⟨a,_|⟨b,_|⟨c,r⟩⟩⟩
  ·decide
  ·exact Nat.le_succ 1
  ·exact ξ 2
  ·have ha:=h2 a η;have hb:=h2 b η;have hc:=h2 c η;simp only[List.nodup_cons,List.mem_cons,not_or]at h1;omega
 rcases(ω:(n.flows.getD i default).route.length=1\/(n.flows.getD i default).route.length=2)with hr|hr
 ·rw[hr];exact GD n d h hw hd i hi D 0 hr z λo y hy _=>vS n d h i hi D hD [o] (by rw[hr];rfl) y hy [] φ
 ·rw[hr];exact GD n d h hw hd i hi D 1 hr z λo y hy _=>next_1 n d h hw hd i hi D hr o y hy λo2 y2 p hy2 _=>vS n d h i hi D hD [o,o2] (by rw[hr];rfl) y2 hy2 [p] (by decide:1<=10)
def endB(o:Option Int)(m:Int)(c:Cand):Cand:=match o with
 |some v=>dT c ⟨true,v,m,[]⟩ []
 |none=>c
noncomputable def fe(n:Net)(d less:List (List Int))(D:Nat->Curve->Except Int Dev)(i:Nat):Cand :=
 endB (endX n less i) 3 (il n d i (D i) (n.flows.getD i default).route.length [] c0 [] (endB (endX n d i) 1 (vP,[])))
theorem rB(c:Cand)(v m:Int):q0c 135 [.lptr 909 0,.agg [.bool true,J v,J m,.nils],.nils] [(909,.box (cN c))] (.tup []) [(909,.box (cN (dT c ⟨true,v,m,[]⟩ [])))] :=
 (vQ c ⟨true,v,m,[]⟩ []).arg (.cons Ψ (.cons (AvLe.agg (.cons Ψ (.cons Ψ (.cons Ψ (.cons AvLe.nils .nil))))) (.cons AvLe.nils .nil)))
theorem Eg(n:Net)(d less:List (List Int))(h:NetOk n)(hw:NamesOk n)(hd:ShapeOk n d)(hN2:n.lines.length<=2)(i:Nat)(hi:i<n.flows.length)(D:Nat->Curve->Except Int Dev)(hD:DelF (n.flows.getD i default).con (D i)) :
  q0d 71 [n.av,aH d,aH less,J i] (.agg (cN (fe n d less D i))):=by
 have p1:=G5 n d i;have p2:=G5 n less i;unfold fe;obtain⟨c1,ec1⟩:∃c1,c1=endB (endX n d i) 1 (vP,[]):=⟨_,rfl⟩;rw[<-ec1];have p3:=(Gj n d h hw hd hN2 i hi (D i) hD c0 c1).arg (us:=[.lptr 912 0,.nils,.agg [.nils,J 0,J 0],.nils]) (.cons Ψ (.cons AvLe.nils (.cons (AvLe.agg (.cons AvLe.nils (.cons Ψ (.cons Ψ .nil)))) (.cons AvLe.nils .nil))));obtain⟨c2,ec2⟩:∃c2,c2=il n d i (D i) (n.flows.getD i default).route.length [] c0 [] c1:=⟨_,rfl⟩;rw[<-ec2]at p3⊢;rcases h1:endX n d i with _|v<;>rcases h2:endX n less i with _|w;all_goals
  rw[h1]at p1 ec1;rw[h2]at p2;have ec1:c1=_:=ec1;subst ec1;have q1:=rB (vP,[]);have q2:=rB c2;refine opG func71 ntmps71 results71 λ_ _ _=>?_;repeat'(first|(refine aL [1,2,3,4,8,9] [4,8,909] [(912,12)] [(12,.lptr 912 0)] [(912,some (.box (eQ n d i)))] ⟨⟨rfl,rfl⟩,sq1,sq1⟩ ?_;conv=>whnf)|(refine aL [0,1,2,3,4,8] [4,8] [(909,9)] [(9,.lptr 909 0)] [(909,some (.box (cN (vP,[]))))] ⟨⟨rfl,rfl⟩,?_,?_⟩ ?_;(solve|((refine' subP)<;>first|exact ObLe.box (.cons Ψ (.cons Ψ (.cons Ψ (.cons AvLe.nils (.cons AvLe.nils .nil)))))|exact sq1));(solve|((refine' subP)<;>first|exact ObLe.box (.cons Ψ (.cons Ψ (.cons Ψ (.cons AvLe.nils (.cons AvLe.nils .nil)))))|exact sq1));conv=>whnf)|refine' ak|refine ab p1 ?_|refine ab p2 ?_|(refine bq ((q1 _ 1)) ?_)|(refine mq p3 ⟨rfl,rfl,trivial⟩ ⟨trivial,trivial,trivial⟩ ?_;conv=>whnf)|(refine bq ((q2 _ 3)) ?_))
  all_goals first|exact Ψ|exact ariA
instance:Inhabited Bnd:=⟨vP⟩
theorem GE(n:Net)(h:NetOk n):∃D:Nat->Curve->Except Int Dev,∀i,i<n.flows.length->DelF (n.flows.getD i default).con (D i)/\DelX (n.flows.getD i default).con (D i):=by
 have key:∀i,∃D,i<n.flows.length->DelF (n.flows.getD i default).con D/\DelX (n.flows.getD i default).con D:=λi=>by
  by_cases hi:i<n.flows.length
  ·have hfo:FlowOk n.lines (n.flows.getD i default):=h.flow _ (by simp[hi]);obtain⟨D,hD⟩:=HV (n.flows.getD i default).con ⟨hfo.valid,hfo.con_fin⟩;exact⟨D,λ_=>hD⟩
  ·exact⟨λ_=>.error 0,λh=>absurd h hi⟩
 exact⟨λi=>Classical.choose (key i),λi=>Classical.choose_spec (key i)⟩
theorem rC(n:Net)(d:List (List Int))(h:NetOk n)(hw:NamesOk n)(hd:ShapeOk n d)(hN2:n.lines.length<=2):q0d 70 [n.av,aH d] (aH (refX n d)):=by
 obtain⟨_,rfl,p⟩:=DT n d h hw hd hN2;exact p
noncomputable def ke(n:Net)(d less:List (List Int))(D:Nat->Curve->Except Int Dev)(k:Nat):List Bnd:=(List.range k).map λi=>(fe n d less D i).1
theorem ly(n:Net)(d less:List (List Int))(D:Nat->Curve->Except Int Dev)(k:Nat):(ke n d less D k).length=k:=by simp[ke]
theorem Bc(n:Net)(d less:List (List Int))(D:Nat->Curve->Except Int Dev)(k:Nat):ke n d less D (k+1)=ke n d less D k++[(fe n d less D k).1]:=by simp[ke,List.range_succ]
theorem Eh:FldA prog 116 0:=by unfold FldA;kernel_rfl
theorem all_no(n:Net)(d:List (List Int))(hc:iD n d=false):q0d 30 [n.av,aH d] (.tup [.nils,J 8]):=by
 have p0:=t5 n d;rw[hc]at p0;refine opG func30 ntmps30 results30 λ_ _ _=>?_;repeat'(first|refine' ak|refine ab p0 ?_)
 all_goals exact Ψ
theorem Ir(n:Net)(d:List (List Int))(hc:iD n d=true)(hN2:n.lines.length<=2)(D:Nat->Curve->Except Int Dev)(hD:∀i,i<n.flows.length->DelF (n.flows.getD i default).con (D i)) :
  ∃l,l=ke n d (refX n d) D n.flows.length/\q0d 30 [n.av,aH d] (.tup [slc 4 bndC default l,J 0]):=by
 obtain⟨⟨⟨h,hw⟩,hd⟩,_⟩:=fU.1 hc;have p0:=t5 n d;rw[hc]at p0;have hfl:=h.flen;have p1:=rC n d h hw hd hN2;obtain⟨less,el⟩:∃less,less=refX n d:=⟨_,rfl⟩;rw[<-el]at p1⊢;refine opE func30 ntmps30 results30 ?_;repeat'(first|refine' ah|refine ab p0 ?_|refine ab p1 ?_)
 all_goals try exact ariA
 refine⟨bG (λ_ _ _=>cA 7 100 4 75 rfl rfl rfl) (ag (ι:={j:Nat//j<=n.flows.length}) [1,2,6,18] [2] [] ⟨0,π _⟩ (λ⟨j,_⟩=>n.flows.length-j) (λ⟨j,_⟩=>[(7,.osl 100 j),(19,J j)]) (λ⟨j,_⟩=>[(100,some (.arr j 4 (eget bndC default (ke n d less D j)) 75))]) ?_ ?_).good⟩
 ·refine⟨⟨rfl,rfl⟩,?_,?_⟩;all_goals((refine' subP)<;>first|exact q0b rfl (ν)|exact sq1)
 ·rintro⟨j,hj⟩;conv=>whnf
  by_cases hjl:(j:Int)<n.flows.length
  ·have p2:=Eg n d less h hw hd hN2 j ω D (hD j ω);have hln:=ly n d less D j;have hget:∀q,q<j+1->∀e,(q=j->e=bndC (fe n d less D j).1)->(bif Nat.blt q j then eget bndC default (ke n d less D j) q else e)=eget bndC default (ke n d less D (j+1)) q:=λq hq e he=>by
    rw[Bc];exact bO bndC default _ _ hln.symm q hq e he
   repeat'(first|(refine Λ hjl λhb=>?_;conv=>whnf)|(refine' aR [(100,30)] ⟨j+1,ω⟩<;>first|exact q0b rfl (λq hq=>hget q hq _ (λe=>by rw[e,Nat.sub_self];rfl))|exact sq1)|refine' ah|refine ab p2 ?_)
   all_goals try first|with_reducible exact Eh|exact ariA|exact⟨ξ _,aY ω rfl⟩
  ·obtain rfl:j=n.flows.length:=ω;repeat'(first|(refine Υ hjl λhb=>?_;conv=>whnf)|refine' ah|fail)
   all_goals try exact ariA
   refine bL [4,5] [100] [] [] [] ⟨⟨rfl,rfl⟩,?_,?_⟩ (bJ 100 rfl rfl (λ_ _=>rfl) ?_ ?_ (cY ?_))
   ·skip;all_goals exact sq1
   ·skip;all_goals exact sq1
   ·all_goals try refine' frzZ
   ·all_goals try refine' frzZ
   ·conv=>whnf
    exact⟨ke n d less D n.flows.length,AvLe.tup (.cons (Γ (ly n d less D _).symm λi hi=>rfl) (.cons Ψ .nil)),rfl⟩
theorem Is(n:Net)(d:List (List Int))(hc:iD n d=true)(hN2:n.lines.length<=2)(D:Nat->Curve->Except Int Dev)(i:Nat)(hi:i<n.flows.length)(hD:DelF (n.flows.getD i default).con (D i)) :
  q0d 34 [n.av,aH d,J i] (.tup [.agg (bndC (fe n d (refX n d) D i).1),slc 5 Spl.cells default (fe n d (refX n d) D i).2,J 0]):=by
 obtain⟨⟨⟨h,hw⟩,hd⟩,_⟩:=fU.1 hc;have p0:=t5 n d;rw[hc]at p0;have hfl:=h.flen;have p1:=rC n d h hw hd hN2;have p2:=Eg n d (refX n d) h hw hd hN2 i hi D hD;refine opG func34 ntmps34 results34 λ_ _ _=>?_;repeat'(first|refine' ak|refine ab p0 ?_|refine ab p1 ?_|refine ab p2 ?_)
 all_goals first|exact Ψ|omega|(exfalso;omega)|exact υ
theorem mem_of{n:Net}{i:Nat}(hi:i<n.flows.length){x:Int}(hx:x∈(n.flows.getD i default).route):(i:Int)∈a6 n x (n.flows.getD i default).class_:=by
 rw[pY];refine List.mem_filter.2 ⟨o8 n x i ((uD (Int.le_refl 0)).2 hx) _ hi,?_⟩;rw[χ];exact decide_eq_true rfl
theorem Bd{n:Net}{d:List (List Int)}(hc:iD n d=true){i:Nat}(hi:i<n.flows.length):∀x∈(n.flows.getD i default).route,0<=dAt d (n.flows.getD i default).class_ x:=λx hx=>by
 obtain⟨⟨⟨h,_⟩,hd⟩,hp⟩:=fU.1 hc;have hfo:FlowOk n.lines (n.flows.getD i default):=h.flow _ (by simp[hi]);have h1:=hfo.lines x hx;have h2:=hfo.cls2 x hx;have h0:=hfo.cls;have hm:=mem_of hi hx;obtain⟨L,eL⟩:=γ h1.1;obtain⟨c,ec⟩:=γ h0;subst eL;rw[ec]at hm h2⊢;rw[χ]at h2;exact hp.1 L c ω h2 λe=>by rw[e]at hm;cases hm
theorem z8{n:Net}{d:List (List Int)}(hc:iD n d=true){i:Nat}(hi:i<n.flows.length):endX n d i=some (((n.flows.getD i default).route.length-1)+((n.flows.getD i default).route.map (dAt d (n.flows.getD i default).class_)).sum):=by
 obtain⟨hf,_⟩:=fU.1 hc;rw[xO hf hi];exact(r6 _ _ _).2 ⟨Bd hc hi,rfl⟩
theorem GF{f g:Int->Int}(h:∀x,f x<=g x):∀l:List Int,(l.map f).sum<=(l.map g).sum
 |[]=>Int.le_refl 0
 |x::r=>by
  have:=GF h r;have:=h x;simp only[List.map_cons,List.sum_cons];omega
theorem vX{n:Net}{d less:List (List Int)}{D:Nat->Curve->Except Int Dev}{i:Nat}{v:Int}(h:endX n d i=some v):(fe n d less D i).1.found=true/\(fe n d less D i).1.value<=v:=by
 unfold fe;rw[h];obtain⟨c1,e1⟩:∃c1,c1=endB (some v) 1 (vP,[]):=⟨_,rfl⟩;rw[<-e1];have h1:c1.1.found=true/\c1.1.value<=v:=by
  rw[e1];exact⟨dU _ _ _ rfl,(jp _ _ _).1⟩
 obtain⟨c2,e2⟩:∃c2,c2=il n d i (D i) (n.flows.getD i default).route.length [] c0 [] c1:=⟨_,rfl⟩;rw[<-e2];have h2:c2.1.found=true/\c2.1.value<=v:=by
  rw[e2];have:=(tB (D i) (allP n d i (n.flows.getD i default).route.length [] c0 []) c1).1 h1.1;exact⟨this.1,Int.le_trans this.2 h1.2⟩
 unfold endB;split
 ·exact⟨dU _ _ _ rfl,Int.le_trans ((jp c2 _ []).2 h2.1) h2.2⟩
 ·exact h2
def DLe(d x:List (List Int)):Prop:=∀L c:Nat,(d.getD L []).getD c 0<=(x.getD L []).getD c 0
theorem Gk{n:Net}{d x:List (List Int)}(hc:iD n d=true)(hx:iD n x=true)(hle:DLe d x){D:Nat->Curve->Except Int Dev}{i:Nat}(hi:i<n.flows.length) :
  ∃y,endX n x i=some y/\(fe n x (refX n x) D i).1.found=true/\(fe n d (refX n d) D i).1.value<=y/\(fe n x (refX n x) D i).1.value<=y:=by
 have e1:=z8 hc hi;have e2:=z8 hx hi;have b1:=vX (less:=refX n d) (D:=D) e1;have b2:=vX (less:=refX n x) (D:=D) e2;have hs:=GF (λy=>hle y.toNat (n.flows.getD i default).class_.toNat) (n.flows.getD i default).route;have hs:((n.flows.getD i default).route.map (dAt d (n.flows.getD i default).class_)).sum<=((n.flows.getD i default).route.map (dAt x (n.flows.getD i default).class_)).sum:=hs;exact⟨_,e2,b2.1,ω,b2.2⟩
def moV(more:List Int)(i k:Nat)(x:Int):Int:=if 0<more.length then x+(more.getD ((i+k)%more.length) 0)%6 else x
def moR(more:List Int)(r:List Int)(i:Nat):List Int:=(List.range r.length).map λk=>moV more i k (r.getD k 0)
def moD(more:List Int)(d:List (List Int)):List (List Int):=(List.range d.length).map λi=>moR more (d.getD i []) i
theorem Ei(more r:List Int)(i:Nat):(moR more r i).length=r.length:=by simp[moR]
theorem Ej(more:List Int)(d:List (List Int)):(moD more d).length=d.length:=by simp[moD]
theorem It(more:List Int)(i k:Nat)(x:Int):x<=moV more i k x/\moV more i k x<=x+5:=by
 unfold moV;split<;>omega
theorem imp_le(more:List Int)(d:List (List Int)):DLe d (moD more d):=λL c=>by
 by_cases hL:L<d.length
 ·rw[show(moD more d).getD L []=moR more (d.getD L []) L by simp[moD,hL]];by_cases hk:c<(d.getD L []).length
  ·rw [show(moR more (d.getD L []) L).getD c 0=moV more L c ((d.getD L []).getD c 0) by
    obtain⟨r,er⟩:∃r,r=d.getD L []:=⟨_,rfl⟩;rw[<-er]at hk⊢;simp[moR,hk]]
   exact(It _ _ _ _).1
  ·obtain⟨r,er⟩:∃r,r=d.getD L []:=⟨_,rfl⟩;rw[<-er]at hk⊢;rw[show r.getD c 0=0 by rw[ψ,List.getElem?_eq_none ω];rfl,show(moR more r L).getD c 0=0 by rw[ψ,List.getElem?_eq_none (by rw[Ei];omega)];rfl];exact Int.le_refl 0
 ·rw[show d.getD L []=[] by rw[ψ,List.getElem?_eq_none ω];rfl,show(moD more d).getD L []=[] by rw[ψ,List.getElem?_eq_none (by rw[Ej];omega)];rfl];exact Int.le_refl _
def moT(more r:List Int)(i j:Nat):List Int:=(List.range j).map λk=>moV more i k (r.getD k 0)
theorem Iu(more r:List Int)(i j:Nat):(moT more r i j).length=j:=by simp[moT]
theorem Gl(more r:List Int)(i j:Nat):moT more r i (j+1)=moT more r i j++[moV more i j (r.getD j 0)]:=by simp[moT,List.range_succ]
def moU(more:List Int)(d:List (List Int))(i:Nat):List (List Int):=(List.range i).map λi=>moR more (d.getD i []) i
theorem Iv(more:List Int)(d:List (List Int))(i:Nat):(moU more d i).length=i:=by simp[moU]
theorem Gm(more:List Int)(d:List (List Int))(i:Nat):moU more d (i+1)=moU more d i++[moR more (d.getD i []) i]:=by simp[moU,List.range_succ]
theorem z9(d:List (List Int))(k:Nat)(hk:k<2):∃z,qf n2 d 0 k 0=.ok z/\NrmC z/\∀t:Nat,z.fn t=10*t:=by
 have key:∀ L:Int,(L = 0 \/ L = 1) -> ∃ z,(match dE n2 d 0 L 0 with
  |.error e=>.error e
  |.ok o=>match offX n2 d L 0 with
   |.error e=>.error e
   |.ok b=>gB b o 0)=Except.ok z/\NrmC z/\∀t:Nat,z.fn t=10*t:=λL hL=>by
  have e1:dE n2 d 0 L 0=.ok (am 0):=by
   unfold dE;rw[show kE n2 L 0=[0]from by rcases hL with rfl|rfl<;>decide];rw[j8];unfold othS;rw[if_pos φ];rfl
  have e2:offX n2 d L 0=.ok (am 10):=by
   unfold offX;rcases hL with rfl|rfl<;>rfl
  rw[e1,e2];dsimp only;obtain ⟨z,ez,h1,h2⟩:=xK (x:=gB (am 10) (am 0) 0) (by
   unfold gB;rw[dif_pos ⟨aU φ,aU φ⟩];exact(Classical.choose_spec (ij (am 10) (am 0) (aU φ) (aU φ) 0)).1)
  exact⟨z,ez,h1,h2⟩
 unfold qf;rcases(ω:k=0\/k=1)with rfl|rfl
 ·exact key 0 (.inl rfl)
 ·exact key 1 (.inr rfl)
theorem Iw:∃p,([1,1],c10,[p])∈allP n2 [[9],[10]] 0 2 [] c0 []:=by
 obtain⟨y,ey,ny,fy⟩:=z9 [[9],[10]] 0 φ;obtain⟨z,ez,nz,fz⟩:=z9 [[9],[10]] 1 φ;have e0:bN n2 [[9],[10]] 0 0 1=.ok y:=ey;have e1:bN n2 [[9],[10]] 0 1 1=.ok z:=ez;have hG:hopF y.fn 0=g10:=funext λt=>by
  unfold hopF g10;by_cases e:t=0
  ·rw[if_pos e,e];rfl
  ·rw[if_neg e,fy];omega
 have hp:=D6 nz (s:=0) (i:=10) ⟨ξ 1,λt _=>by rw[fz,fz];omega⟩;have hc:bY c10 z=.ok c10:=by
  rw[iC xM nz,hp,if_pos φ];have e:cF c10.fn z.fn=g10:=funext λt=>by
   obtain⟨s,u,h2,h3⟩:=iG c10.fn z.fn t;have h4:=iA c10.fn z.fn (s:=t) (u:=0) (t:=t) ω;rw[D5,fz]at h3 h4;rw[D5];unfold g10 at *;omega
  rw[e];exact xL.eq.symm
 obtain⟨p,hpv,hpr⟩:∃p,fq c10 z=.ok p/\p.res=c10:=by
  unfold fq;rw[hc];exact⟨_,rfl,rfl⟩
 have o0:i9 n2 [[9],[10]] 0 ([]:List Int).length=.ok [0,1,10]:=rfl;have o1:i9 n2 [[9],[10]] 0 ([1]:List Int).length=.ok [0,1,11]:=rfl;refine⟨p,z6 (r:=1) o0 (o:=1) φ (y:=(c10,[])) ?_ (z6 (r:=0) (ch:=[]++[1]) o1 (o:=1) φ (y:=(p.res,[p])) ?_ ?_)⟩
 ·show mr n2 [[9],[10]] 0 0 false c0 [] 1=_;rw[mv,Ed e0,vD ny,show(n2.flows.getD 0 default).most-1=0 from rfl,hG,xL.eq.symm]
 ·show mr n2 [[9],[10]] 0 (0+1) true c10 [] 1=_;rw[pJ,z7 e1];dsimp only;rw[hpv];rfl
 ·rw[hpr];exact List.mem_singleton.2 rfl
theorem n2_one{q:List Int×Curve×List Spl}(h:q∈allP n2 [[9],[10]] 0 2 [] c0 []):q.2.2.length=1:=by
 have o0:i9 n2 [[9],[10]] 0 ([]:List Int).length=.ok [0,1,10]:=rfl;rw[jq o0]at h;obtain⟨o,_,h⟩:=List.mem_flatMap.1 h;have hs:=mv (n:=n2) (d:=[[9],[10]]) (i:=0) (last:=false) (z:=c0) (ps:=[]) (o:=o);have h:q∈(match mr n2 [[9],[10]] 0 0 false c0 [] o with |none=>[]|some y=>allP n2 [[9],[10]] 0 1 ([]++[o]) y.1 y.2):=h;rw[hs]at h;rcases hx:hopO n2 [[9],[10]] 0 0 false o with e|y
 ·rw[hx]at h;cases h
 ·rw[hx]at h;have h:q∈allP n2 [[9],[10]] 0 1 [o] y []:=h;have o1:i9 n2 [[9],[10]] 0 ([o]:List Int).length=.ok [0,1,11]:=rfl;rw[jq o1]at h;obtain⟨o2,_,h⟩:=List.mem_flatMap.1 h;have hs:=pJ (n:=n2) (d:=[[9],[10]]) (i:=0) (k:=0) (last:=true) (z:=y) (ps:=[]) (o:=o2);have h:q∈(match mr n2 [[9],[10]] 0 (0+1) true y [] o2 with |none=>[]|some y=>allP n2 [[9],[10]] 0 0 ([o]++[o2]) y.1 y.2):=h;rw[hs]at h;rcases hx2:hopO n2 [[9],[10]] 0 (0+1) true o2 with e|x
  ·rw[hx2]at h;cases h
  ·rw[hx2]at h;dsimp only at h;rcases hp:fq y x with e|p
   ·rw[hp]at h;cases h
   ·rw[hp]at h;have h:q∈[([o]++[o2],p.res,[]++[p])]:=h;rw[List.mem_singleton.1 h];rfl
theorem Ix{less:List (List Int)}{D:Nat->Curve->Except Int Dev}(hD:DelX ac (D 0)):(fe n2 [[9],[10]] less D 0).1.found=true/\(fe n2 [[9],[10]] less D 0).1.value<=10/\((fe n2 [[9],[10]] less D 0).1.meth=2->(fe n2 [[9],[10]] less D 0).2.length=1):=by
 obtain⟨p,hp⟩:=Iw;have hb:jJ (D 0 c10)=.ok 10:=AT (y:=.ok (false,10,0)) (D7 hD).2;unfold fe;obtain⟨c1,e1⟩:∃c1,c1=endB (endX n2 [[9],[10]] ((0:Nat):Int)) 1 (vP,[]):=⟨_,rfl⟩;rw[<-e1];have h1:c1.1.meth≠2:=by
  rw[e1];unfold endB;split
  ·unfold dT;split
   ·show(1:Int)≠2;decide
   ·show(0:Int)≠2;decide
  ·show(0:Int)≠2;decide
 obtain⟨k1,k2,k3⟩:=tB (D 0) (allP n2 [[9],[10]] 0 2 [] c0 []) c1;obtain⟨k4,k5⟩:=k2 _ hp 10 hb;obtain⟨c2,e2⟩:∃c2,c2=(allP n2 [[9],[10]] 0 2 [] c0 []).foldl (tryX (D 0)) c1:=⟨_,rfl⟩;rw[<-e2]at k1 k2 k3 k4 k5;have e3:il n2 [[9],[10]] 0 (D 0) (n2.flows.getD 0 default).route.length [] c0 [] c1=c2:=e2.symm;rw[e3];have h2:c2.1.meth=2->c2.2.length=1:=by
  rcases k3 with k3|⟨q,hq,v,_,e⟩
  ·rw[k3];exactλh=>absurd h h1
  ·rw[e];exactλ_=>n2_one hq
 unfold endB;split
 ·rename_i v _;refine⟨dU _ _ _ rfl,Int.le_trans ((jp c2 _ []).2 k4) k5,?_⟩;rcases pI c2 ⟨true,v,3,[]⟩ []with e|e
  ·rw[e];exactλh=>absurd (show(3:Int)=2 from h) φ
  ·rw[e];exact h2
 ·exact⟨k4,k5,h2⟩
theorem Iy:∃_:Unit,True/\q0d 68 [] n2.av:=by
 have p0:=qB 100 1 1 φ φ;refine opE func68 ntmps68 results68 ?_;repeat'(first|refine' ah|refine ab p0 ?_)
 refine bL [0] [] [] [] [(0,some (.box [.osl 3 2,.osl 6 2,.osl 11 1])),(3,some (.arr 2 1 (eget encS .empty n2.names) 9)),(6,some (.arr 2 5 (eget Line.cells default n2.lines) 97)),(7,some (.arr 2 1 (eget encI 0 [0,1]) 3)),(11,some (.arr 1 8 (λ_=>n2C) 47))] ⟨⟨rfl,rfl⟩,?_,?_⟩ (bJ 7 rfl rfl (λ_ _=>rfl) ?_ ?_ (bJ 3 rfl rfl (λ_ _=>rfl) ?_ ?_ (bJ 6 rfl rfl (λ_ _=>rfl) ?_ ?_ (bJ 11 rfl rfl (λ_ _=>rfl) ?_ ?_ (cY ?_)))))
 ·skip;all_goals((refine' subP)<;>first|exact q0b rfl (lt1n rfl)|exact q0b rfl (lt2n rfl rfl)|exact obArrL (lt2n (.cons Ψ (.cons Ψ (.cons Ψ (.cons AvLe.nils (.cons AvLe.nils .nil))))) (.cons Ψ (.cons Ψ (.cons Ψ (.cons AvLe.nils (.cons AvLe.nils .nil))))))|exact sq1)
 ·skip;all_goals exact sq1
 ·all_goals try refine' frzZ
 ·all_goals try refine' frzZ
 ·all_goals try refine' frzZ
 ·all_goals try refine' frzZ
 ·all_goals try refine' frzZ
 ·all_goals try refine' frzZ
 ·all_goals try refine' frzZ
 ·all_goals try refine' frzZ
 ·conv=>whnf
  exact⟨(),AvLe.agg (.cons (Γ rfl λi hi=>rfl) (.cons (Γ rfl λi hi=>rfl) (.cons (Γ rfl (lt1n rfl)) .nil))),trivial⟩
theorem two31:q0d 68 [] n2.av:=by
 obtain⟨_,_,p⟩:=Iy;exact p
def tD:Nat->List AV:=λi=>bif Nat.beq i 0 then[.osl 33 1]else[.osl 34 1]
def qg(g1 g2 g3:Nat->List AV):List (Nat×LObj):=[(33,.arr 1 1 g1 3),(34,.arr 1 1 g2 3),(35,.arr 2 1 g3 22)]
theorem lt1F{p:Nat->Prop}(h0:p 0):∀i,i<1->p i:=λi hi=>by
 obtain rfl:i=0:=ω;exact h0
theorem Be{P:Program}{f:FuncId}{v:AV}{r:AV}{x y:Int}{g1 g2 g3:Nat->List AV}(e1:g1 0=encI x)(e2:g2 0=encI y)(e3:g3 0=[.osl 33 1])(e4:g3 1=[.osl 34 1])(h:CallSpec P f [v,aH [[x],[y]]] [] r [])(hr:Ff r=true):CallSpec P f [v,.osl 35 2] (qg g1 g2 g3) r (qg g1 g2 g3):=by
 have one:∀{id:Nat} {ob:LObj},luL (qg g1 g2 g3) id=some ob->(id=33/\ob=.arr 1 1 g1 3)\/(id=34/\ob=.arr 1 1 g2 3)\/(id=35/\ob=.arr 2 1 g3 22):=by
  intro id ob hl;have hm:=nv hl;simp only[qg,List.mem_cons,List.not_mem_nil,or_false,Prod.mk.injEq]at hm;exact hm
 have n1:∀ids i,i<1->nmL ids (g1 i)=true:=λids=>lt1F (by rw[e1];rfl);have n2:∀ids i,i<1->nmL ids (g2 i)=true:=λids=>lt1F (by rw[e2];rfl);refine h.lendG _ hr (λid ob hl i hi=>?_) (λid ob hl=>?_) λρ Im H xs ho hx=>?_
 ·refine b9.2 (d7 (ids:=(qg g1 g2 g3).map (·.1)) ?_ hi);rcases one hl with⟨_,rfl⟩|⟨_,rfl⟩|⟨_,rfl⟩
  ·exact n1 _
  ·exact n2 _
  ·exact lt2n (by rw[e3];rfl) (by rw[e4];rfl)
 ·rcases one hl with⟨_,rfl⟩|⟨_,rfl⟩|⟨_,rfl⟩<;>rfl
 ·have h33:ObjCon ρ Im H 33 (.arr 1 1 (eget encI 0 [x]) 3):=(q0b rfl (lt1F e1)).con _ _ _ _ (ho 33 _ rfl);have h34:ObjCon ρ Im H 34 (.arr 1 1 (eget encI 0 [y]) 3):=(q0b rfl (lt1F e2)).con _ _ _ _ (ho 34 _ rfl);have h35:ObjCon ρ Im H 35 (.arr 2 1 tD 22):=(q0b rfl (lt2n e3 e4)).con _ _ _ _ (ho 35 _ rfl);have g34:=mU h33 (λi hi=>rfl) (u:=.arr 1 1 (eget encI 0 [y]) 3) (λi hi=>⟨trivial,trivial⟩) h34;have g35:=mU h33 (λi hi=>rfl) (u:=.arr 2 1 tD 22) (λi hi=>by unfold tD;cases Nat.beq i 0<;>exact⟨by first|exact ξ 1|trivial,trivial⟩) h35;have k35:=mU g34 (fun i hi=>rfl) (u:=frzO 33 (.arr 1 1 (eget encI 0 [x]) 3) (.arr 2 1 tD 22)) (fun i hi=>by
   show frzCL 34 (frzO 33 (.arr 1 1 (eget encI 0 [x]) 3) (.arr 1 1 (eget encI 0 [y]) 3)) (frzL 33 (.arr 1 1 (eget encI 0 [x]) 3) (tD i));unfold tD;cases Nat.beq i 0<;>exact⟨by first|exact ξ 1|trivial,trivial⟩) g35
  refine⟨hx.1,λi c z hc hz=>?_⟩;match i with
  |0=>
   cases hc;exact(hx.2 0 _ z rfl hz).mono (λb hb=>.inl hb) λ_ _=>rfl
  |1 =>
   cases hc;have c0:=hx.2 1 (.osl 35 2) z rfl hz;have c1:=fG h33 (λi hi=>rfl) (.osl 35 2) z trivial c0;have c2:=fG g34 (λi hi=>rfl) (.osl 35 2) z trivial c1;have c3:=fG k35 (fun i hi=>by
    show nmL [] (frzL 34 _ (frzL 33 _ (tD i)))=true;unfold tD;cases Nat.beq i 0<;>rfl) (.osl 35 2) z (ξ 2) c2
   have c4:=(show AvLe (frzV 35 (frzO 34 (frzO 33 (.arr 1 1 (eget encI 0 [x]) 3) (.arr 1 1 (eget encI 0 [y]) 3)) (frzO 33 (.arr 1 1 (eget encI 0 [x]) 3) (.arr 2 1 tD 22))) (.osl 35 2)) (aH [[x],[y]])from Γ rfl (lt2n rfl rfl)).con _ _ _ _ c3;refine c4.mono (λb hb=>?_) λ_ _=>rfl;rcases hb with((hb|hb)|hb)|hb
   ·exact .inl hb
   ·exact .inr ⟨33,_,rfl,hb⟩
   ·exact .inr ⟨34,_,rfl,hb⟩
   ·exact .inr ⟨35,_,rfl,hb⟩
  |i+2=>cases hc
theorem n2_no:iD n2 [[0],[0]]=false:=by
 cases hc:iD n2 [[0],[0]]with
 |false=>rfl
 |true=>
  obtain⟨_,hp⟩:=fU.1 hc;rw[show dS n2 [[0],[0]]=[[9],[((9:Nat):Int)]]from pH (a:=0) (b:=0) (v:=9) (.inl rfl) φ rfl]at hp;have:=(hp.2 0 0 φ φ φ).2;exact absurd this φ
theorem Gn{g1 g2 g3:Nat->List AV}{x y:Int}(e1:g1 0=encI x)(e2:g2 0=encI y)(e3:g3 0=[.osl 33 1])(e4:g3 1=[.osl 34 1]):∀p∈qg g1 g2 g3,obCl ((qg g1 g2 g3).map (·.1)) p.2:=λp hp=>by
 simp only[qg,List.mem_cons,List.not_mem_nil,or_false]at hp;rcases hp with rfl|rfl|rfl
 ·exact lt1F (by rw[e1];rfl)
 ·exact lt1F (by rw[e2];rfl)
 ·exact lt2n (by rw[e3];rfl) (by rw[e4];rfl)
theorem Ek{g1 g2 g3:Nat->List AV}(e1:g1 0=encI 0)(e2:g2 0=encI 0)(e3:g3 0=[.osl 33 1])(e4:g3 1=[.osl 34 1]):q0c 34 [n2.av,.osl 35 2,J 0] (qg g1 g2 g3) (.tup [.agg [.bool false,J 0,J 0,.nils],.nils,J 8]) (qg g1 g2 g3):=by
 have q:=t5 n2 [[0],[0]];rw[n2_no]at q;have p0:=Be e1 e2 e3 e4 q rfl;have hcl:=Gn e1 e2 e3 e4;refine opG func34 ntmps34 results34 (λ_ _ _=>?_) (hcl:=⟨rfl,rfl,rfl,hcl,hcl,rfl⟩);repeat'(first|refine' ak|(refine bg ⟨?_,rfl,rfl,rfl,trivial⟩;conv=>whnf)|(refine bb p0 ⟨rfl,rfl,rfl,trivial⟩ ⟨trivial,trivial,trivial,trivial⟩ ?_;conv=>whnf))
 all_goals exact Ψ
theorem Gp(x:Bnd)(hx:x.choice.length<=1000):q0d 39 [.agg (bndC x),.agg (bndC x)] (.bool true):=by
 obtain⟨r,hr,p⟩:=zo x.choice x.choice hx;obtain rfl:=hr.2 rfl;obtain⟨f,v,m,c⟩:=x;rcases f with _|_;all_goals
  refine opG func39 ntmps39 results39 λ_ _ _=>?_;repeat'(first|refine' ak|refine ab p ?_)
  all_goals first|exact Ψ|(exfalso;omega)
theorem vY{n:Net}{d less:List (List Int)}{D:Nat->Curve->Except Int Dev}{i:Nat}{P:List Int->Prop}(h0:P [])(h:∀q∈allP n d i (n.flows.getD i default).route.length [] c0 [],P q.1):P (fe n d less D i).1.choice:=by
 unfold fe;have hb:∀(o:Option Int) (m:Int) (c:Cand),P c.1.choice->P (endB o m c).1.choice:=λo m c hc=>by
  unfold endB;split
  ·rcases pI c ⟨true,_,m,[]⟩ []with e|e
   ·rw[e];exact h0
   ·rw[e];exact hc
  ·exact hc
 refine hb _ _ _ ?_;obtain⟨_,_,k3⟩:=tB (D i) (allP n d i (n.flows.getD i default).route.length [] c0 []) (endB (endX n d i) 1 (vP,[]));unfold il;rcases k3 with k3|⟨q,hq,v,_,e⟩
 ·rw[k3];exact hb _ _ _ h0
 ·rw[e];exact h q hq
theorem pK{n:Net}{d:List (List Int)}{i:Nat}:∀{r:Nat} {ch:List Int} {z:Curve} {ps:List Spl} {q:List Int×Curve×List Spl},q∈allP n d i r ch z ps->q.1.length=ch.length+r
 |0,ch,z,ps,q,h=>by
  rw[List.mem_singleton.1 h];rfl
 |r+1,ch,z,ps,q,h=>by
  rcases ho:i9 n d i ch.length with e|l
  ·unfold allP at h;rw[ho]at h;cases h
  ·rw[jq ho]at h;obtain⟨o,_,h⟩:=List.mem_flatMap.1 h;rcases hs:mr n d i ch.length (r==0) z ps o with _|y
   ·rw[hs]at h;cases h
   ·rw[hs]at h;have:=pK h;rw[this];simp;omega
theorem sane31:∃b:Bool,b=true/\q0d 29 [] (.bool b):=by
 have p0:=two31;have p1:=DZ;have hc:=Ip;have hl2:n2.lines.length<=2:=φ;obtain⟨D,hD⟩:=GE n2 zj;obtain⟨d1,d2⟩:=hD 0 φ;have p2:=Is n2 [[9],[10]] hc hl2 D 0 φ d1;obtain⟨_,rfl,p3⟩:=Ir n2 [[9],[10]] hc hl2 D λi hi=>(hD i hi).1;obtain⟨b1,b2,b3⟩:=Ix (less:=refX n2 [[9],[10]]) (D:=D) d2;have hcl:(fe n2 [[9],[10]] (refX n2 [[9],[10]]) D 0).1.choice.length<=1000:=vY (P:=λl=>l.length<=1000) φ λq hq=>by
  have:=pK hq;rw[this];decide
 have p5:=Gp _ hcl;rw[show ke n2 [[9],[10]] (refX n2 [[9],[10]]) D n2.flows.length=[(fe n2 [[9],[10]] (refX n2 [[9],[10]]) D 0).1]from rfl]at p3;obtain⟨⟨⟨f,v,m,ch⟩,ps⟩,eX⟩:∃X,X=fe n2 [[9],[10]] (refX n2 [[9],[10]]) D 0:=⟨_,rfl⟩;rw[<-eX]at p2 p3 p5 b1 b2 b3;dsimp only at b1 b2 b3 p2 p3 p5;subst b1;have hps:m≠2\/(ps.length:Int)=1:=by
  by_cases h:m=2
  ·have:=b3 h;omega
  ·exact .inl h
 refine opE func29 ntmps29 results29 ?_;repeat'(first|refine' ah|refine ab p0 ?_|refine ab p1 ?_|refine ab p2 ?_|refine ab p3 ?_|refine ab p5 ?_|(refine bb (Ek rfl rfl rfl rfl) ⟨rfl,rfl,rfl,trivial⟩ ⟨trivial,trivial,trivial,trivial⟩ ?_;conv=>whnf))
 all_goals first|exact ae ⟨true,rfl,rfl⟩|omega|(exfalso;dsimp only at *;omega)|exact υ|(simp only[List.length_singleton];decide)
def u8s(l:List Int):AV:=.isl l.length 1 (λi=>[.int .u8 (l.getD i 0)])
theorem Bf{n:Net}(h:NetOk n){N:Nat}{d:List (List Int)}{k:Nat}(hx:i5 n (bz n) N (some (d,k))):ShapeOk n d/\iD n d=true:=by
 obtain⟨k1,k2,ed,k3,k4,k5⟩:=id hx;have hs:ShapeOk n d:=by rw[ed];exact gA h k
 have hfix:dS n d=d:=by
  have e:bz n (k-1+1)=dS n (bz n (k-1)):=rfl;rw[k5,(ω:k-1+1=k),<-ed]at e;exact e.symm
 have hc:vy n d d:=by
  rw[<-ed]at k4;exact⟨k4,λi c h1 h2 h3=>⟨k4 i c h1 h2 h3,Int.le_refl _⟩⟩
 exact⟨hs,fU.2 ⟨⟨⟨h,h.names⟩,hs⟩,by rw[hfix];exact hc⟩⟩
theorem pL(t more:List Int)(h8:∀i,i<more.length->0<=more.getD i 0/\more.getD i 0<=255):∃b:Bool,b=true/\q0d 7 [ints t,u8s more] (.bool b):=by
 have o1:=new_ok t;have hN:=net_ok (Rd.new t) 2 3 ω ω ω ω;obtain⟨hw,h2⟩:=CF (Rd.new t) 2 3 ω ω ω;obtain⟨n,s1,e1⟩:∃n s1,(Rd.new t).net 2 3=(n,s1):=⟨_,_,rfl⟩;have p1:=E8 _ o1 2 3 ω ω ω ω;rw[e1]at p1 hN hw h2;dsimp only at p1 hN hw h2;have h2:n.lines.length<=2:=h2;have hlen:=hN.len;have hfl:=hN.flen;obtain⟨_,rfl,psane⟩:=sane31;obtain⟨q,hx,p30⟩:=vI n hN hw 30 ω ω;rcases q with _|⟨d,k⟩
 ·have p30:q0d 14 [n.av,J 30] (.tup [.nils,J 0,J 5]):=p30;refine opE func7 ntmps7 results7 ?_;repeat'(first|refine' ah|refine ab psane ?_|(refine iy (yf t) rfl ?_;conv=>whnf)|refine bq p1 ?_|refine ab p30 ?_)
  all_goals try first|exact ariA|exact ae ⟨true,rfl,rfl⟩|(exfalso;omega)
 ·have p30:q0d 14 [n.av,J 30] (.tup [aH d,J k,J 0]):=p30;obtain⟨hs,hc⟩:=Bf hN hx;obtain⟨D,hD⟩:=GE n hN;have hdl:=hs.len;obtain⟨A,eA,p4⟩:=Ir n d hc h2 D λi hi=>(hD i hi).1;obtain⟨x,ex⟩:∃x,x=moD more d:=⟨_,rfl⟩;have hle:DLe d x:=ex▸imp_le more d;have p6:=FR n x;have hAl:A.length=n.flows.length:=by rw[eA,ly]
  have hxl:x.length=d.length:=by rw[ex,Ej]
  have p7:=HW n x;refine opE func7 ntmps7 results7 ?_;repeat'(first|refine' ah|refine ab psane ?_|(refine iy (yf t) rfl ?_;conv=>whnf)|refine bq p1 ?_|refine ab p30 ?_)
  all_goals try first|exact ariA|exact ae ⟨true,rfl,rfl⟩|(exfalso;omega)
  refine⟨bG (λ_ _ _=>cA 10 100 1 22 rfl rfl rfl) (ag (ι:={i:Nat//i<=d.length}) [1,6,7,45] [6] [] ⟨0,π _⟩ (λ⟨i,_⟩=>d.length-i) (λ⟨i,_⟩=>[(10,.osl 100 i),(46,J i)]) (λ⟨i,_⟩=>[(100,some (.arr i 1 (eget c8 [] (moU more d i)) 22))]) ?_ ?_).good⟩
  ·refine⟨⟨rfl,rfl⟩,?_,?_⟩;all_goals((refine' subP)<;>first|exact q0b rfl (ν)|exact sq1)
  ·rintro⟨i,hi⟩;conv=>whnf
   have hU:=Iv more d i;by_cases hil:(i:Int)<d.length
   ·obtain⟨r,er⟩:∃r,r=d.getD i []:=⟨_,rfl⟩;have er2:d.getD (i:Int).toNat []=r:=by rw[er];rfl
    have hcl:=(hN.line (n.lines.getD i default) (by rw[ψ,β ω];exact List.getElem_mem _)).cls;have hrow:=hs.row i ω;have hval:=λk=>hs.val i k ω;rw[<-er]at hrow hval;repeat'(first|(refine Λ hil λhb=>?_;conv=>whnf)|refine' ah|fail)
    all_goals try first|exact ariA|(rw[er2];unfold aj;omega)
    refine⟨bG (λ_ _ _=>cA 12 101 1 3 rfl rfl rfl) (ag (ι:={k:Nat//k<=r.length}) [1,6,7,10,11,45,46] [6,100] [] ⟨0,π _⟩ (λ⟨k,_⟩=>r.length-k) (λ⟨k,_⟩=>[(52,ints r),(53,J r.length),(12,.osl 101 k),(54,J k)]) (λ⟨k,_⟩=>[(101,some (.arr k 1 (eget encI 0 (moT more r i k)) 3))]) ?_ ?_).good⟩
    ·refine⟨⟨rfl,rfl⟩,?_,?_⟩;all_goals((refine' subP)<;>first|exact Ξ (by rw[er2])|exact Θ (by rw[er];rfl)|exact q0b rfl (ν)|exact sq1)
    ·rintro⟨k,hk⟩;conv=>whnf
     by_cases hkl:(k:Int)<r.length
     ·obtain⟨v,ev⟩:∃v,v=r.getD k 0:=⟨_,rfl⟩;have ev2:r.getD (k:Int).toNat 0=v:=by rw[ev];rfl
      have hv:=hval k ω;rw[<-ev]at hv;obtain⟨y,ey⟩:∃y,y=moV more i k v:=⟨_,rfl⟩;have hget:∀q,q<k+1->∀e,(q=k->e=encI y)->(bif Nat.blt q k then eget encI 0 (moT more r i k) q else e)=eget encI 0 (moT more r i (k+1)) q:=λq hq e he=>by
       rw[Gl,<-ev,<-ey];exact bO encI 0 _ _ (Iu more r i k).symm q hq e he
      by_cases hm0:(0:Int)<more.length
      ·obtain⟨z,ez⟩:∃z,z=more.getD ((i+k)%more.length) 0:=⟨_,rfl⟩;have hz:=h8 ((i+k)%more.length) (Nat.mod_lt _ ω);rw[<-ez]at hz;have eT:((i:Int)+(k:Int)).tmod (more.length:Int)=(((i+k)%more.length:Nat):Int):=by rw[<-Int.natCast_add];rfl
       have eT2:more.getD (((i:Int)+(k:Int)).tmod (more.length:Int)).toNat 0=z:=by rw[eT,ez];rfl
       have hmod:=Nat.mod_lt (i+k) (ω:0<more.length);have ez6:z.tmod 6=z%6:=Int.tmod_eq_emod_of_nonneg hz.1;have eY:r.getD (k:Int).toNat 0+(more.getD (((i:Int)+(k:Int)).tmod (more.length:Int)).toNat 0).tmod 6=y:=by
        rw[ev2,eT2,ez6,ey];unfold moV;rw[if_pos ω,ez]
       repeat'(first|(refine Λ hm0 λhb=>?_;conv=>whnf)|(refine Λ hkl λhb=>?_;conv=>whnf)|(refine' aR [(101,78)] ⟨k+1,ω⟩<;>first|exact q0b rfl (λq hq=>hget q hq _ (λe=>by rw[e,Nat.sub_self,<-eY];rfl))|exact sq1)|refine' ah|fail)
       all_goals try first|exact ariA|(rw[eT];omega)|exact⟨ξ _,aY ω rfl⟩|(rw[eT2,ez6];unfold aj;omega)|(rw[ev2,eT2,ez6];unfold aj;omega)
      ·have eY:r.getD (k:Int).toNat 0=y:=by
        rw[ev2,ey];unfold moV;rw[if_neg ω]
       repeat'(first|(refine Υ hm0 λhb=>?_;conv=>whnf)|(refine Λ hkl λhb=>?_;conv=>whnf)|(refine' aR [(101,78)] ⟨k+1,ω⟩<;>first|exact q0b rfl (λq hq=>hget q hq _ (λe=>by rw[e,Nat.sub_self,<-eY];rfl))|exact sq1)|refine' ah|fail)
       all_goals try first|exact ariA|exact⟨ξ _,aY ω rfl⟩
     ·have ek:k=r.length:=ω;subst ek;have eRow:[AV.isl r.length 1 (eget encI 0 (moT more r i r.length))]=c8 (moR more r i):=by
       show[AV.isl r.length 1 _]=[AV.isl (moR more r i).length 1 _];rw[Ei];rfl
      have hgetU:∀q,q<i+1->∀e,(q=i->e=c8 (moR more r i))->(bif Nat.blt q i then eget c8 [] (moU more d i) q else e)=eget c8 [] (moU more d (i+1)) q:=λq hq e he=>by
       rw[Gm,<-er];exact bO c8 [] _ _ hU.symm q hq e he
      refine ar 101 rfl rfl (λ_ _=>rfl) ?_ ?_ ?_
      ·all_goals try refine' frzZ
      ·all_goals try refine' frzZ
      ·conv=>whnf
       repeat'(first|(refine Υ hkl λhb=>?_;conv=>whnf)|(refine' aR [(100,83)] ⟨i+1,ω⟩<;>first|exact q0b rfl (λq hq=>hgetU q hq _ (λe=>by rw[e,Nat.sub_self,<-eRow];rfl))|exact sq1)|refine' ah|fail)
       all_goals try first|exact ariA|exact⟨ξ _,aY ω rfl⟩
   ·have ei : i=d.length:=ω;subst ei;have hav:AvLe (.isl d.length 1 (eget c8 [] (moU more d d.length))) (aH x):=Γ hxl.symm (λq hq=>by rw[ex];rfl);refine ar 100 rfl rfl (λ_ _=>rfl) ?_ ?_ ?_
    ·all_goals try refine' frzZ
    ·all_goals try refine' frzZ
    ·conv => whnf
     refine ao [1,6,7,45,46] [6] [] [(10,aH x)] [] ⟨⟨rfl,rfl⟩,?_,?_⟩ ?_
     ·skip;all_goals((refine' subP)<;>first|exact hav|(rw[c7];exact hav)|exact sq1)
     ·skip;all_goals((refine' subP)<;>first|exact hav|(rw[c7];exact hav)|exact sq1)
     ·conv => whnf
      have hil2:¬(d.length:Int)<d.length:=ω;rcases hcx:iD n x with _|_
      ·have p5:=all_no n x hcx;rw[hcx]at p6;repeat'(first|(refine Υ hil2 λhb=>?_;conv=>whnf)|refine' ah|refine ab p4 ?_|refine ab p5 ?_|refine ab p6 ?_|refine ab psane ?_)
       all_goals try first|exact ariA|exact ae ⟨true,rfl,rfl⟩|(exfalso;omega)
      ·obtain⟨B,eB,p5⟩:=Ir n x hcx h2 D λi hi=>(hD i hi).1;have hBl:B.length=n.flows.length:=by rw[eB,ly]
       have hlaw:∀i,i<n.flows.length->∃y,endX n x i=some y/\(B.getD i default).found=true/\(A.getD i default).value<=y/\(B.getD i default).value<=y:=λi hi=>by
        have:=Gk (D:=D) hc hcx hle hi;rw[eA,eB,show(ke n x (refX n x) D n.flows.length).getD i default=(fe n x (refX n x) D i).1 by simp[ke,hi],show(ke n d (refX n d) D n.flows.length).getD i default=(fe n d (refX n d) D i).1 by simp[ke,hi]];exact this
       rw[hcx]at p6;repeat'(first|(refine Υ hil2 λhb=>?_;conv=>whnf)|refine' ah|refine ab p4 ?_|refine ab p5 ?_|refine ab p6 ?_|refine ab psane ?_)
       all_goals try first|exact ariA|exact ae ⟨true,rfl,rfl⟩|(exfalso;omega)
       refine ag (ι:={i:Nat//i<=A.length}) [6,10,15,17,18,122] [6] [] ⟨0,π _⟩ (λ⟨i,_⟩=>A.length-i) (λ⟨i,_⟩=>[(123,J i)]) (λ_=>[]) ?_ ?_
       ·exact⟨⟨rfl,rfl⟩,sq1,sq1⟩
       ·rintro⟨i,hi⟩;conv=>whnf
        by_cases hiA:(i:Int)<A.length
        ·obtain⟨y,ey,hf,ha,hb2⟩:=hlaw i ω;have p8:=p7 i;rw[ey]at p8;have hb3:(B.getD (i:Int).toNat default).found=true:=hf;have ha4:¬(y<(A.getD (i:Int).toNat default).value):=by have:(A.getD (i:Int).toNat default).value<=y:=ha;omega
         have hb4:¬(y<(B.getD (i:Int).toNat default).value):=by have:(B.getD (i:Int).toNat default).value<=y:=hb2;omega
         repeat'(first|(refine Υ hb4 λhb=>?_;conv=>whnf)|(refine Υ ha4 λhb=>?_;conv=>whnf)|(refine Λ hiA λhb=>?_;conv=>whnf)|(exact aN [] ⟨i+1,ω⟩)|(refine gvE ?_;conv=>whnf)|(refine aa (λhb=>?_) (λhb=>?_)<;>conv=>whnf)|(refine ax (λhb=>?_) (λhb=>?_)<;>conv=>whnf)|(refine Side.mk ?_ ?_;rotate_left;conv=>whnf)|(refine SubS.mk ?_ ?_;rotate_left;conv=>whnf)|(refine VCells.mk ⟨_,rfl,?_⟩;conv=>whnf)|(refine DrawOk.mk ⟨rfl,rfl⟩ ?_;conv=>whnf)|(refine ay (p8) ?_;conv=>whnf)|(rw[hb3];conv=>whnf)|(refine aC (λhb=>?_) (λhb=>?_)<;>conv=>whnf))
         all_goals try exact ariB
        ·skip;repeat'(first|(refine Υ hiA λhb=>?_;conv=>whnf)|refine' ah|refine ab psane ?_)
         all_goals try exact ariA
         exact ae ⟨true,rfl,rfl⟩
end Go.Nc