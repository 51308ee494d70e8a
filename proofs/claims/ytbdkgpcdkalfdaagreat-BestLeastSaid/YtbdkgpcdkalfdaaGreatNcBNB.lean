/- Parts. -/
import Derived.Test.YtbdkgpcdkalfdaaGreatNcALB
namespace Go.Nc
open Go.Proofs.Tryz
open Go.Proofs
set_option maxHeartbeats 8000000
theorem tV{ls:List Line}{f:Flow}(hfo:FlowOk ls f)(hN2:ls.length<=2):f.route.length<=2:=by
 have h1:=hfo.nodup;have h2:=hfo.lines;obtain⟨rt,ert⟩:∃rt,rt=f.route:=⟨_,rfl⟩;rw[<-ert]at h1 h2⊢;clear ert;rcases rt with _|⟨a,_|⟨b,_|⟨c,r⟩⟩⟩
 ·decide
 ·exact Nat.le_succ 1
 ·exact ξ 2
 ·have ha:=h2 a η;have hb:=h2 b η;have hc:=h2 c η;simp only[List.nodup_cons,List.mem_cons,not_or]at h1;omega
theorem G4(n:Net)(d:Xa)(h:NetOk n)(hw:NamesOk n)(hd:ShapeOk n d)(hN2:n.lines.length<=2)(i:Nat)(hi:i<n.flows.length)(D:Curve->Except Int Dev)(hD:DelF (n.flows.getD i default).con D)(z:Curve) :
  wq n d i D (n.flows.getD i default).route.length [] z []:=by
 have hfo:FlowOk n.lines (n.flows.getD i default):=h.flow _ (by simp[hi]);have hne:=hfo.ne;have hle:=tV hfo hN2;rcases(ω:(n.flows.getD i default).route.length=1\/(n.flows.getD i default).route.length=2)with hr|hr
 ·rw[hr];exact Hm n d h hw hd i hi D 0 hr z λo y hy _=>wr n d h i hi D hD [o] (by rw[hr];rfl) y hy [] φ
 ·rw[hr];exact Hm n d h hw hd i hi D 1 hr z λo y hy _=>next_1 n d h hw hd i hi D hr o y hy λo2 y2 p hy2 _=>wr n d h i hi D hD [o,o2] (by rw[hr];rfl) y2 hy2 [p] (by decide:1<=10)
def endB(o:Option Int)(m:Int)(c:Cand):Cand:=match o with
 |some v=>d6 c ⟨true,v,m,[]⟩ []
 |none=>c
noncomputable def iy(n:Net)(d less:Xa)(D:Nat->Curve->Except Int Dev)(i:Nat):Cand :=
 endB (endX n less i) 3 (iw n d i (D i) (n.flows.getD i default).route.length [] c0 [] (endB (endX n d i) 1 (tS,[])))
theorem sk(c:Cand)(v m:Int):q0c 135 [.lptr 909 0,.agg [.bool true,J v,J m,.nils],.nils] [(909,.box (cT c))] (.tup []) [(909,.box (cT (d6 c ⟨true,v,m,[]⟩ [])))] :=
 (wn c ⟨true,v,m,[]⟩ []).arg (.cons Ψ (.cons (AvLe.agg (.cons Ψ (.cons Ψ (.cons Ψ (.cons AvLe.nils .nil))))) (.cons AvLe.nils .nil)))
theorem Ev(n:Net)(d less:Xa)(h:NetOk n)(hw:NamesOk n)(hd:ShapeOk n d)(hl:Full n less)(hN2:n.lines.length<=2)(i:Nat)(hi:i<n.flows.length)(D:Nat->Curve->Except Int Dev)(hD:DelF (n.flows.getD i default).con (D i)) :
  q0d 71 [n.av,aK d,aK less,J i] (.agg (cT (iy n d less D i))):=by
 have hf:Full n d:=⟨⟨h,hw⟩,hd⟩;have p1:=He n d i;have p2:=He n less i;unfold iy;obtain⟨c1,ec1⟩:∃c1,c1=endB (endX n d i) 1 (tS,[]):=⟨_,rfl⟩;rw[<-ec1];have p3:=(G4 n d h hw hd hN2 i hi (D i) hD c0 c1).arg (us:=[.lptr 912 0,.nils,.agg [.nils,J 0,J 0],.nils]) (.cons Ψ (.cons AvLe.nils (.cons (AvLe.agg (.cons AvLe.nils (.cons Ψ (.cons Ψ .nil)))) (.cons AvLe.nils .nil))));obtain⟨c2,ec2⟩:∃c2,c2=iw n d i (D i) (n.flows.getD i default).route.length [] c0 [] c1:=⟨_,rfl⟩;rw[<-ec2]at p3⊢;rcases h1:endX n d i with _|v<;>rcases h2:endX n less i with _|w;all_goals
  rw[h1]at p1 ec1;rw[h2]at p2;have ec1:c1=_:=ec1;subst ec1;have q1:=sk (tS,[]);have q2:=sk c2;refine opG func71 ntmps71 results71 λ_ _ _=>?_;repeat'(first|(refine aP [1,2,3,4,8,9] [4,8,909] [(912,12)] [(12,.lptr 912 0)] [(912,some (.box (f7 n d i)))] ⟨⟨rfl,rfl⟩,sq1,sq1⟩ ?_;conv=>whnf)|(refine aP [0,1,2,3,4,8] [4,8] [(909,9)] [(9,.lptr 909 0)] [(909,some (.box (cT (tS,[]))))] ⟨⟨rfl,rfl⟩,?_,?_⟩ ?_;(solve|((refine' subP)<;>first|exact ObLe.box (.cons Ψ (.cons Ψ (.cons Ψ (.cons AvLe.nils (.cons AvLe.nils .nil)))))|exact sq1));(solve|((refine' subP)<;>first|exact ObLe.box (.cons Ψ (.cons Ψ (.cons Ψ (.cons AvLe.nils (.cons AvLe.nils .nil)))))|exact sq1));conv=>whnf)|refine' ak|refine ab p1 ?_|refine ab p2 ?_|(refine bT ((q1 _ 1)) ?_)|(refine mO p3 ⟨rfl,rfl,trivial⟩ ⟨trivial,trivial,trivial⟩ ?_;conv=>whnf)|(refine bT ((q2 _ 3)) ?_))
  all_goals first|exact Ψ|exact ariA
instance:Inhabited Bnd:=⟨tS⟩
theorem Hn(n:Net)(h:NetOk n):∃D:Nat->Curve->Except Int Dev,∀i,i<n.flows.length->DelF (n.flows.getD i default).con (D i)/\DelX (n.flows.getD i default).con (D i):=by
 have key:∀i,∃D,i<n.flows.length->DelF (n.flows.getD i default).con D/\DelX (n.flows.getD i default).con D:=λi=>by
  by_cases hi:i<n.flows.length
  ·have hfo:FlowOk n.lines (n.flows.getD i default):=h.flow _ (by simp[hi]);obtain⟨D,hD⟩:=I2 (n.flows.getD i default).con ⟨hfo.valid,hfo.con_fin⟩;exact⟨D,λ_=>hD⟩
  ·exact⟨λ_=>.error 0,λh=>absurd h hi⟩
 exact⟨λi=>Classical.choose (key i),λi=>Classical.choose_spec (key i)⟩
theorem mR(n:Net)(d:Xa)(h:NetOk n)(hw:NamesOk n)(hd:ShapeOk n d)(hN2:n.lines.length<=2):q0d 70 [n.av,aK d] (aK (refX n d)):=by
 obtain⟨_,rfl,p⟩:=Ei n d h hw hd hN2;exact p
noncomputable def qi(n:Net)(d less:Xa)(D:Nat->Curve->Except Int Dev)(k:Nat):List Bnd:=(List.range k).map λi=>(iy n d less D i).1
theorem wx(n:Net)(d less:Xa)(D:Nat->Curve->Except Int Dev)(k:Nat):(qi n d less D k).length=k:=by simp[qi]
theorem Bt(n:Net)(d less:Xa)(D:Nat->Curve->Except Int Dev)(k:Nat):qi n d less D (k+1)=qi n d less D k++[(iy n d less D k).1]:=by simp[qi,List.range_succ]
theorem Ew:FldA prog 116 0:=by unfold FldA;kernel_rfl
theorem all_e(n:Net)(d:Xa)(hc:jQ n d=true)(hN2:n.lines.length<=2)(D:Nat->Curve->Except Int Dev)(hD:∀i,i<n.flows.length->DelF (n.flows.getD i default).con (D i)) :
  ∃l,l=qi n d (refX n d) D n.flows.length/\q0d 30 [n.av,aK d] (.tup [slc 4 bndC default l,J 0]):=by
 have hf:=(cY.1 hc).1;obtain⟨⟨h,hw⟩,hd⟩:=id hf;have hl:Full n (refX n d):=⟨⟨h,hw⟩,jK h hw hd⟩;have p0:=tK n d;rw[hc]at p0;have hfl:=h.flen;have p1:=mR n d h hw hd hN2;obtain⟨less,el⟩:∃less,less=refX n d:=⟨_,rfl⟩;rw[<-el]at p1 hl⊢;refine opE func30 ntmps30 results30 ?_;repeat'(first|refine' aj|refine ab p0 ?_|refine ab p1 ?_)
 all_goals try exact ariA
 refine⟨bL (λ_ _ _=>cH 7 100 4 75 rfl rfl rfl) (ae (ι:={j:Nat//j<=n.flows.length}) [1,2,6,18] [2] [] ⟨0,π _⟩ (λ⟨j,_⟩=>n.flows.length-j) (λ⟨j,_⟩=>[(7,.osl 100 j),(19,J j)]) (λ⟨j,_⟩=>[(100,some (.arr j 4 (eget bndC default (qi n d less D j)) 75))]) ?_ ?_).good⟩
 ·refine⟨⟨rfl,rfl⟩,?_,?_⟩;all_goals((refine' subP)<;>first|exact q0b rfl (ν)|exact sq1)
 ·rintro⟨j,hj⟩;conv=>whnf
  by_cases hjl:(j:Int)<n.flows.length
  ·have p2:=Ev n d less h hw hd hl hN2 j ω D (hD j ω);have hln:=wx n d less D j;have hget:∀q,q<j+1->∀e,(q=j->e=bndC (iy n d less D j).1)->(bif Nat.blt q j then eget bndC default (qi n d less D j) q else e)=eget bndC default (qi n d less D (j+1)) q:=λq hq e he=>by
    rw[Bt];exact bO bndC default _ _ hln.symm q hq e he
   repeat'(first|(refine Λ hjl λhb=>?_;conv=>whnf)|(refine' aQ [(100,30)] ⟨j+1,ω⟩<;>first|exact q0b rfl (λq hq=>hget q hq _ (λe=>by rw[e,Nat.sub_self];rfl))|exact sq1)|refine' aj|refine ab p2 ?_)
   all_goals try first|with_reducible exact Ew|exact ariA|exact⟨ξ _,aO ω rfl⟩
  ·obtain rfl:j=n.flows.length:=ω;repeat'(first|(refine Υ hjl λhb=>?_;conv=>whnf)|refine' aj|fail)
   all_goals try exact ariA
   refine bg [4,5] [100] [] [] [] ⟨⟨rfl,rfl⟩,?_,?_⟩ (bm 100 rfl rfl (λ_ _=>rfl) ?_ ?_ (cn ?_))
   ·skip;all_goals exact sq1
   ·skip;all_goals exact sq1
   ·all_goals try refine' frzZ
   ·all_goals try refine' frzZ
   ·conv=>whnf
    exact⟨qi n d less D n.flows.length,AvLe.tup (.cons (Γ (wx n d less D _).symm λi hi=>rfl) (.cons Ψ .nil)),rfl⟩
theorem Ex(n:Net)(d:Xa)(hc:jQ n d=true)(hN2:n.lines.length<=2)(D:Nat->Curve->Except Int Dev)(i:Nat)(hi:i<n.flows.length)(hD:DelF (n.flows.getD i default).con (D i)) :
  q0d 34 [n.av,aK d,J i] (.tup [.agg (bndC (iy n d (refX n d) D i).1),slc 5 Spl.cells default (iy n d (refX n d) D i).2,J 0]):=by
 have hf:=(cY.1 hc).1;obtain⟨⟨h,hw⟩,hd⟩:=id hf;have hl:Full n (refX n d):=⟨⟨h,hw⟩,jK h hw hd⟩;have p0:=tK n d;rw[hc]at p0;have hfl:=h.flen;have p1:=mR n d h hw hd hN2;have p2:=Ev n d (refX n d) h hw hd hl hN2 i hi D hD;refine opG func34 ntmps34 results34 λ_ _ _=>?_;repeat'(first|refine' ak|refine ab p0 ?_|refine ab p1 ?_|refine ab p2 ?_)
 all_goals first|exact Ψ|omega|(exfalso;omega)|exact υ
theorem mem_of{n:Net}{i:Nat}(hi:i<n.flows.length){x:Int}(hx:x∈(n.flows.getD i default).route):(i:Int)∈a8 n x (n.flows.getD i default).class_:=by
 rw[qC];refine List.mem_filter.2 ⟨oJ n x i ((uO (Int.le_refl 0)).2 hx) _ hi,?_⟩;rw[χ];exact decide_eq_true rfl
theorem zR(d:Xa)(k:Nat)(hk:k<2):∃z,nu n2 d 0 k 0=.ok z/\NrmC z/\∀t:Nat,z.fn t=10*t:=by
 have key:∀ L:Int,(L = 0 \/ L = 1) -> ∃ z,(match dG n2 d 0 L 0 with
  |.error e=>.error e
  |.ok o=>match offX n2 d L 0 with
   |.error e=>.error e
   |.ok b=>fB b o 0)=Except.ok z/\NrmC z/\∀t:Nat,z.fn t=10*t:=λL hL=>by
  have e1:dG n2 d 0 L 0=.ok (ao 0):=by
   unfold dG;rw[show kV n2 L 0=[0]from by rcases hL with rfl|rfl<;>decide];rw[jF];unfold othS;rw[if_pos φ];rfl
  have e2:offX n2 d L 0=.ok (ao 10):=by
   unfold offX;rcases hL with rfl|rfl<;>rfl
  rw[e1,e2];dsimp only;obtain ⟨z,ez,h1,h2⟩:=xZ (x:=fB (ao 10) (ao 0) 0) (by
   unfold fB;rw[dif_pos ⟨aT φ,aT φ⟩];exact(Classical.choose_spec (ir (ao 10) (ao 0) (aT φ) (aT φ) 0)).1)
  exact⟨z,ez,h1,h2⟩
 unfold nu;rcases(ω:k=0\/k=1)with rfl|rfl
 ·exact key 0 (.inl rfl)
 ·exact key 1 (.inr rfl)
theorem IK:∃p,([1,1],c10,[p])∈allP n2 [[9],[10]] 0 2 [] c0 []:=by
 obtain⟨y,ey,ny,fy⟩:=zR [[9],[10]] 0 φ;obtain⟨z,ez,nz,fz⟩:=zR [[9],[10]] 1 φ;have e0:bn n2 [[9],[10]] 0 0 1=.ok y:=ey;have e1:bn n2 [[9],[10]] 0 1 1=.ok z:=ez;have hG:hopF y.fn 0=g10:=funext λt=>by
  unfold hopF g10;by_cases e:t=0
  ·rw[if_pos e,e];rfl
  ·rw[if_neg e,fy];omega
 have hp:=DK nz (s:=0) (i:=10) ⟨ξ 1,λt _=>by rw[fz,fz];omega⟩;have hc:bA c10 z=.ok c10:=by
  rw[gM yc nz,hp,if_pos φ];have e:cF c10.fn z.fn=g10:=funext λt=>by
   obtain⟨s,u,h2,h3⟩:=gi c10.fn z.fn t;have h4:=iL c10.fn z.fn (s:=t) (u:=0) (t:=t) ω;rw[DJ,fz]at h3 h4;rw[DJ];unfold g10 at *;omega
  rw[e];exact ya.eq.symm
 obtain⟨p,hpv,hpr⟩:∃p,bY c10 z=.ok p/\p.res=c10:=by
  unfold bY;rw[hc];exact⟨_,rfl,rfl⟩
 have o0:dq n2 [[9],[10]] 0 ([]:List Int).length=.ok [0,1,10]:=rfl;have o1:dq n2 [[9],[10]] 0 ([1]:List Int).length=.ok [0,1,11]:=rfl;refine⟨p,zP (r:=1) o0 (o:=1) φ (y:=(c10,[])) ?_ (zP (r:=0) (ch:=[]++[1]) o1 (o:=1) φ (y:=(p.res,[p])) ?_ ?_)⟩
 ·show iv n2 [[9],[10]] 0 0 false c0 [] 1=_;rw[mQ,Et e0,rP ny,show(n2.flows.getD 0 default).most-1=0 from rfl,hG,ya.eq.symm]
 ·show iv n2 [[9],[10]] 0 (0+1) true c10 [] 1=_;rw[qg,zQ e1];dsimp only;rw[hpv];rfl
 ·rw[hpr];exact List.mem_singleton.2 rfl
theorem n2_one{q:List Int×Curve×List Spl}(h:q∈allP n2 [[9],[10]] 0 2 [] c0 []):q.2.2.length=1:=by
 have o0:dq n2 [[9],[10]] 0 ([]:List Int).length=.ok [0,1,10]:=rfl;rw[fj o0]at h;obtain⟨o,_,h⟩:=List.mem_flatMap.1 h;have hs:=mQ (n:=n2) (d:=[[9],[10]]) (i:=0) (last:=false) (z:=c0) (ps:=[]) (o:=o);have h:q∈(match iv n2 [[9],[10]] 0 0 false c0 [] o with |none=>[]|some y=>allP n2 [[9],[10]] 0 1 ([]++[o]) y.1 y.2):=h;rw[hs]at h;rcases hx:hopO n2 [[9],[10]] 0 0 false o with e|y
 ·rw[hx]at h;cases h
 ·rw[hx]at h;have h:q∈allP n2 [[9],[10]] 0 1 [o] y []:=h;have o1:dq n2 [[9],[10]] 0 ([o]:List Int).length=.ok [0,1,11]:=rfl;rw[fj o1]at h;obtain⟨o2,_,h⟩:=List.mem_flatMap.1 h;have hs:=qg (n:=n2) (d:=[[9],[10]]) (i:=0) (k:=0) (last:=true) (z:=y) (ps:=[]) (o:=o2);have h:q∈(match iv n2 [[9],[10]] 0 (0+1) true y [] o2 with |none=>[]|some y=>allP n2 [[9],[10]] 0 0 ([o]++[o2]) y.1 y.2):=h;rw[hs]at h;rcases hx2:hopO n2 [[9],[10]] 0 (0+1) true o2 with e|x
  ·rw[hx2]at h;cases h
  ·rw[hx2]at h;dsimp only at h;rcases hp:bY y x with e|p
   ·rw[hp]at h;cases h
   ·rw[hp]at h;have h:q∈[([o]++[o2],p.res,[]++[p])]:=h;rw[List.mem_singleton.1 h];rfl
theorem IL{less:Xa}{D:Nat->Curve->Except Int Dev}(hD:DelX ac (D 0)):(iy n2 [[9],[10]] less D 0).1.found=true/\(iy n2 [[9],[10]] less D 0).1.value<=10/\((iy n2 [[9],[10]] less D 0).1.meth=2->(iy n2 [[9],[10]] less D 0).2.length=1):=by
 obtain⟨p,hp⟩:=IK;have hb:cR (D 0 c10)=.ok 10:=rW (y:=.ok (false,10,0)) (DL hD).2;unfold iy;obtain⟨c1,e1⟩:∃c1,c1=endB (endX n2 [[9],[10]] ((0:Nat):Int)) 1 (tS,[]):=⟨_,rfl⟩;rw[<-e1];have h1:c1.1.meth≠2:=by
  rw[e1];unfold endB;split
  ·unfold d6;split
   ·show(1:Int)≠2;decide
   ·show(0:Int)≠2;decide
  ·show(0:Int)≠2;decide
 obtain⟨k1,k2,k3⟩:=tT (D 0) (allP n2 [[9],[10]] 0 2 [] c0 []) c1;obtain⟨k4,k5⟩:=k2 _ hp 10 hb;obtain⟨c2,e2⟩:∃c2,c2=(allP n2 [[9],[10]] 0 2 [] c0 []).foldl (tryX (D 0)) c1:=⟨_,rfl⟩;rw[<-e2]at k1 k2 k3 k4 k5;have e3:iw n2 [[9],[10]] 0 (D 0) (n2.flows.getD 0 default).route.length [] c0 [] c1=c2:=e2.symm;rw[e3];have h2:c2.1.meth=2->c2.2.length=1:=by
  rcases k3 with k3|⟨q,hq,v,_,e⟩
  ·rw[k3];exactλh=>absurd h h1
  ·rw[e];exactλ_=>n2_one hq
 unfold endB;split
 ·rename_i v _;refine⟨gO _ _ _ rfl,Int.le_trans ((lO c2 _ []).2 k4) k5,?_⟩;rcases lP c2 ⟨true,v,3,[]⟩ []with e|e
  ·rw[e];exactλh=>absurd (show(3:Int)=2 from h) φ
  ·rw[e];exact h2
 ·exact⟨k4,k5,h2⟩
theorem IM:∃_:Unit,True/\q0d 68 [] n2.av:=by
 have p0:=rd 100 1 1 φ φ;refine opE func68 ntmps68 results68 ?_;repeat'(first|refine' aj|refine ab p0 ?_)
 refine bg [0] [] [] [] [(0,some (.box [.osl 3 2,.osl 6 2,.osl 11 1])),(3,some (.arr 2 1 (eget encS .empty n2.names) 9)),(6,some (.arr 2 5 (eget Line.cells default n2.lines) 97)),(7,some (.arr 2 1 (eget encI 0 [0,1]) 3)),(11,some (.arr 1 8 (λ_=>n2C) 47))] ⟨⟨rfl,rfl⟩,?_,?_⟩ (bm 7 rfl rfl (λ_ _=>rfl) ?_ ?_ (bm 3 rfl rfl (λ_ _=>rfl) ?_ ?_ (bm 6 rfl rfl (λ_ _=>rfl) ?_ ?_ (bm 11 rfl rfl (λ_ _=>rfl) ?_ ?_ (cn ?_)))))
 ·skip;all_goals((refine' subP)<;>first|exact q0b rfl (lt1n rfl)|exact q0b rfl (lt2n rfl rfl)|exact obArrL (lt2n (.cons Ψ (.cons Ψ (.cons Ψ (.cons AvLe.nils (.cons AvLe.nils .nil))))) (.cons Ψ (.cons Ψ (.cons Ψ (.cons AvLe.nils (.cons AvLe.nils .nil))))))|exact sq1)
 ·skip;all_goals exact sq1
 ·all_goals try refine' frzZ
 ·all_goals try refine' frzZ
 ·all_goals try refine' frzZ
 ·all_goals try refine' frzZ
 ·all_goals try refine' frzZ
 ·all_goals try refine' frzZ
 ·all_goals try refine' frzZ
 ·all_goals try refine' frzZ
 ·conv=>whnf
  exact⟨(),AvLe.agg (.cons (Γ rfl λi hi=>rfl) (.cons (Γ rfl λi hi=>rfl) (.cons (Γ rfl (lt1n rfl)) .nil))),trivial⟩
theorem two31:q0d 68 [] n2.av:=by
 obtain⟨_,_,p⟩:=IM;exact p
def tW:Nat->List AV:=λi=>bif Nat.beq i 0 then[.osl 33 1]else[.osl 34 1]
def qE(g1 g2 g3:Nat->List AV):Xc:=[(33,.arr 1 1 g1 3),(34,.arr 1 1 g2 3),(35,.arr 2 1 g3 22)]
theorem lt1F{p:Nat->Prop}(h0:p 0):∀i,i<1->p i:=λi hi=>by
 obtain rfl:i=0:=ω;exact h0
theorem Bu{P:Program}{f:FuncId}{v:AV}{r:AV}{x y:Int}{g1 g2 g3:Nat->List AV}(e1:g1 0=encI x)(e2:g2 0=encI y)(e3:g3 0=[.osl 33 1])(e4:g3 1=[.osl 34 1])(h:CallSpec P f [v,aK [[x],[y]]] [] r [])(hr:Fz r=true):CallSpec P f [v,.osl 35 2] (qE g1 g2 g3) r (qE g1 g2 g3):=by
 have one:∀{id:Nat} {ob:LObj},luL (qE g1 g2 g3) id=some ob->(id=33/\ob=.arr 1 1 g1 3)\/(id=34/\ob=.arr 1 1 g2 3)\/(id=35/\ob=.arr 2 1 g3 22):=by
  intro id ob hl;have hm:=nK hl;simp only[qE,List.mem_cons,List.not_mem_nil,or_false,Prod.mk.injEq]at hm;exact hm
 have n1:∀ids i,i<1->nmL ids (g1 i)=true:=λids=>lt1F (by rw[e1];rfl);have n2:∀ids i,i<1->nmL ids (g2 i)=true:=λids=>lt1F (by rw[e2];rfl);refine h.lendG _ hr (λid ob hl i hi=>?_) (λid ob hl=>?_) λρ Im H xs ho hx=>?_
 ·refine bI.2 (dM (ids:=(qE g1 g2 g3).map (·.1)) ?_ hi);rcases one hl with⟨_,rfl⟩|⟨_,rfl⟩|⟨_,rfl⟩
  ·exact n1 _
  ·exact n2 _
  ·exact lt2n (by rw[e3];rfl) (by rw[e4];rfl)
 ·rcases one hl with⟨_,rfl⟩|⟨_,rfl⟩|⟨_,rfl⟩<;>rfl
 ·have h33:ObjCon ρ Im H 33 (.arr 1 1 (eget encI 0 [x]) 3):=(q0b rfl (lt1F e1)).con _ _ _ _ (ho 33 _ rfl);have h34:ObjCon ρ Im H 34 (.arr 1 1 (eget encI 0 [y]) 3):=(q0b rfl (lt1F e2)).con _ _ _ _ (ho 34 _ rfl);have h35:ObjCon ρ Im H 35 (.arr 2 1 tW 22):=(q0b rfl (lt2n e3 e4)).con _ _ _ _ (ho 35 _ rfl);have g34:=nx h33 (λi hi=>rfl) (u:=.arr 1 1 (eget encI 0 [y]) 3) (λi hi=>⟨trivial,trivial⟩) h34;have g35:=nx h33 (λi hi=>rfl) (u:=.arr 2 1 tW 22) (λi hi=>by unfold tW;cases Nat.beq i 0<;>exact⟨by first|exact ξ 1|trivial,trivial⟩) h35;have k35:=nx g34 (fun i hi=>rfl) (u:=frzO 33 (.arr 1 1 (eget encI 0 [x]) 3) (.arr 2 1 tW 22)) (fun i hi=>by
   show frzCL 34 (frzO 33 (.arr 1 1 (eget encI 0 [x]) 3) (.arr 1 1 (eget encI 0 [y]) 3)) (frzL 33 (.arr 1 1 (eget encI 0 [x]) 3) (tW i));unfold tW;cases Nat.beq i 0<;>exact⟨by first|exact ξ 1|trivial,trivial⟩) g35
  refine⟨hx.1,λi c z hc hz=>?_⟩;match i with
  |0=>
   cases hc;exact(hx.2 0 _ z rfl hz).mono (λb hb=>.inl hb) λ_ _=>rfl
  |1 =>
   cases hc;have c0:=hx.2 1 (.osl 35 2) z rfl hz;have c1:=fO h33 (λi hi=>rfl) (.osl 35 2) z trivial c0;have c2:=fO g34 (λi hi=>rfl) (.osl 35 2) z trivial c1;have c3:=fO k35 (fun i hi=>by
    show nmL [] (frzL 34 _ (frzL 33 _ (tW i)))=true;unfold tW;cases Nat.beq i 0<;>rfl) (.osl 35 2) z (ξ 2) c2
   have c4:=(show AvLe (frzV 35 (frzO 34 (frzO 33 (.arr 1 1 (eget encI 0 [x]) 3) (.arr 1 1 (eget encI 0 [y]) 3)) (frzO 33 (.arr 1 1 (eget encI 0 [x]) 3) (.arr 2 1 tW 22))) (.osl 35 2)) (aK [[x],[y]])from Γ rfl (lt2n rfl rfl)).con _ _ _ _ c3;refine c4.mono (λb hb=>?_) λ_ _=>rfl;rcases hb with((hb|hb)|hb)|hb
   ·exact .inl hb
   ·exact .inr ⟨33,_,rfl,hb⟩
   ·exact .inr ⟨34,_,rfl,hb⟩
   ·exact .inr ⟨35,_,rfl,hb⟩
  |i+2=>cases hc
theorem n2_no:jQ n2 [[0],[0]]=false:=by
 cases hc:jQ n2 [[0],[0]]with
 |false=>rfl
 |true=>
  obtain⟨_,hp⟩:=cY.1 hc;rw[show gg n2 [[0],[0]]=[[9],[((9:Nat):Int)]]from qf (a:=0) (b:=0) (v:=9) (.inl rfl) φ rfl]at hp;have:=(hp.2 0 0 φ φ φ).2;exact absurd this φ
theorem G5{g1 g2 g3:Nat->List AV}{x y:Int}(e1:g1 0=encI x)(e2:g2 0=encI y)(e3:g3 0=[.osl 33 1])(e4:g3 1=[.osl 34 1]):∀p∈qE g1 g2 g3,obCl ((qE g1 g2 g3).map (·.1)) p.2:=λp hp=>by
 simp only[qE,List.mem_cons,List.not_mem_nil,or_false]at hp;rcases hp with rfl|rfl|rfl
 ·exact lt1F (by rw[e1];rfl)
 ·exact lt1F (by rw[e2];rfl)
 ·exact lt2n (by rw[e3];rfl) (by rw[e4];rfl)
theorem Ey{g1 g2 g3:Nat->List AV}(e1:g1 0=encI 0)(e2:g2 0=encI 0)(e3:g3 0=[.osl 33 1])(e4:g3 1=[.osl 34 1]):q0c 34 [n2.av,.osl 35 2,J 0] (qE g1 g2 g3) (.tup [.agg [.bool false,J 0,J 0,.nils],.nils,J 8]) (qE g1 g2 g3):=by
 have q:=tK n2 [[0],[0]] ⟨⟨vX,tJ⟩,qd φ φ⟩;rw[n2_no]at q;have p0:=Bu e1 e2 e3 e4 q rfl;have hcl:=G5 e1 e2 e3 e4;refine opG func34 ntmps34 results34 (λ_ _ _=>?_) (hcl:=⟨rfl,rfl,rfl,hcl,hcl,rfl⟩);repeat'(first|refine' ak|(refine bq ⟨?_,rfl,rfl,rfl,trivial⟩;conv=>whnf)|(refine b7 p0 ⟨rfl,rfl,rfl,trivial⟩ ⟨trivial,trivial,trivial,trivial⟩ ?_;conv=>whnf))
 all_goals exact Ψ
theorem G6(x:Bnd)(hx:x.choice.length<=1000):q0d 39 [.agg (bndC x),.agg (bndC x)] (.bool true):=by
 obtain⟨r,hr,p⟩:=zE x.choice x.choice hx;obtain rfl:=hr.2 rfl;obtain⟨f,v,m,c⟩:=x;rcases f with _|_;all_goals
  refine opG func39 ntmps39 results39 λ_ _ _=>?_;repeat'(first|refine' ak|refine ab p ?_)
  all_goals first|exact Ψ|(exfalso;omega)
theorem wy{n:Net}{d less:Xa}{D:Nat->Curve->Except Int Dev}{i:Nat}{P:List Int->Prop}(h0:P [])(h:∀q∈allP n d i (n.flows.getD i default).route.length [] c0 [],P q.1):P (iy n d less D i).1.choice:=by
 unfold iy;have hb:∀(o:Option Int) (m:Int) (c:Cand),P c.1.choice->P (endB o m c).1.choice:=λo m c hc=>by
  unfold endB;split
  ·rcases lP c ⟨true,_,m,[]⟩ []with e|e
   ·rw[e];exact h0
   ·rw[e];exact hc
  ·exact hc
 refine hb _ _ _ ?_;obtain⟨_,_,k3⟩:=tT (D i) (allP n d i (n.flows.getD i default).route.length [] c0 []) (endB (endX n d i) 1 (tS,[]));unfold iw;rcases k3 with k3|⟨q,hq,v,_,e⟩
 ·rw[k3];exact hb _ _ _ h0
 ·rw[e];exact h q hq
theorem qj{n:Net}{d:Xa}{i:Nat}:∀{r:Nat} {ch:List Int} {z:Curve} {ps:List Spl} {q:List Int×Curve×List Spl},q∈allP n d i r ch z ps->q.1.length=ch.length+r
 |0,ch,z,ps,q,h=>by
  rw[List.mem_singleton.1 h];rfl
 |r+1,ch,z,ps,q,h=>by
  rcases ho:dq n d i ch.length with e|l
  ·unfold allP at h;rw[ho]at h;cases h
  ·rw[fj ho]at h;obtain⟨o,_,h⟩:=List.mem_flatMap.1 h;rcases hs:iv n d i ch.length (r==0) z ps o with _|y
   ·rw[hs]at h;cases h
   ·rw[hs]at h;have:=qj h;rw[this];simp;omega
theorem sane31:∃b:Bool,b=true/\q0d 29 [] (.bool b):=by
 have p0:=two31;have p1:=Eo;have hc:=II;have hl2:n2.lines.length<=2:=φ;obtain⟨D,hD⟩:=Hn n2 vX;obtain⟨d1,d2⟩:=hD 0 φ;have p2:=Ex n2 [[9],[10]] hc hl2 D 0 φ d1;obtain⟨_,rfl,p3⟩:=all_e n2 [[9],[10]] hc hl2 D λi hi=>(hD i hi).1;obtain⟨b1,b2,b3⟩:=IL (less:=refX n2 [[9],[10]]) (D:=D) d2;have hcl:(iy n2 [[9],[10]] (refX n2 [[9],[10]]) D 0).1.choice.length<=1000:=wy (P:=λl=>l.length<=1000) φ λq hq=>by
  have:=qj hq;rw[this];decide
 have p5:=G6 _ hcl;rw[show qi n2 [[9],[10]] (refX n2 [[9],[10]]) D n2.flows.length=[(iy n2 [[9],[10]] (refX n2 [[9],[10]]) D 0).1]from rfl]at p3;obtain⟨⟨⟨f,v,m,ch⟩,ps⟩,eX⟩:∃X,X=iy n2 [[9],[10]] (refX n2 [[9],[10]]) D 0:=⟨_,rfl⟩;rw[<-eX]at p2 p3 p5 b1 b2 b3;dsimp only at b1 b2 b3 p2 p3 p5;subst b1;have hps:m≠2\/(ps.length:Int)=1:=by
  by_cases h:m=2
  ·have:=b3 h;omega
  ·exact .inl h
 refine opE func29 ntmps29 results29 ?_;repeat'(first|refine' aj|refine ab p0 ?_|refine ab p1 ?_|refine ab p2 ?_|refine ab p3 ?_|refine ab p5 ?_|(refine b7 (Ey rfl rfl rfl rfl) ⟨rfl,rfl,rfl,trivial⟩ ⟨trivial,trivial,trivial,trivial⟩ ?_;conv=>whnf))
 all_goals first|exact ag ⟨true,rfl,rfl⟩|omega|(exfalso;dsimp only at *;omega)|exact υ|(simp only[List.length_singleton];decide)
end Go.Nc