/- Parts. -/
import Derived.Test.YtbdkgpcdkalfdaaGreatNcBNB
import Derived.Test.YtbdkgpcdkalfdaaGreatNcR3X
namespace Go.Nc
set_option maxHeartbeats 8000000
open Go.Proofs.Tryz
open Go.Proofs
theorem tY{n:Net}{d:Xa}(hc:jQ n d=true){i:Nat}(hi:i<n.flows.length):∀x∈(n.flows.getD i default).route,0<=dAt d (n.flows.getD i default).class_ x/\0<=dAt (refX n d) (n.flows.getD i default).class_ x:=λx hx=>by
 obtain⟨⟨⟨h,hw⟩,hd⟩,hp⟩:=cY.1 hc;have hfo:FlowOk n.lines (n.flows.getD i default):=h.flow _ (by simp[hi]);have h1:=hfo.lines x hx;have h2:=hfo.cls2 x hx;have h0:=hfo.cls;have hm:=mem_of hi hx;obtain⟨L,eL⟩:=γ h1.1;obtain⟨c,ec⟩:=γ h0;subst eL;rw[ec]at hm h2⊢;rw[χ]at h2;have hx:=hp.1 L c ω h2 λe=>by rw[e]at hm;cases hm
 have hx:0<=(d.getD L []).getD c 0:=hx;have hb:=tR h hw hd (L:=L) (C:=c) ω h2;have hr:=(nP hd (L:=L) ω).2 c (by have:=hd.row L ω;omega);refine⟨hx,?_⟩;show 0<=((refX n d).getD L []).getD c 0;rw[hr];omega
theorem bl_end{n:Net}{d:Xa}(hc:jQ n d=true){i:Nat}(hi:i<n.flows.length):(∃a,endX n d i=some a)/\∃c,endX n (refX n d) i=some c:=by
 obtain⟨hf,_⟩:=cY.1 hc;have hr:=tY hc hi;rw[tL hf hi,tL ⟨hf.1,jK hf.1.1 hf.1.2 hf.2⟩ hi];exact⟨⟨_,(mN _ _ _).2 ⟨λx hx=>(hr x hx).1,rfl⟩⟩,_,(mN _ _ _).2 ⟨λx hx=>(hr x hx).2,rfl⟩⟩
theorem EG{n:Net}{d:Xa}{i k:Nat}(hc:∀x∈(n.flows.getD i default).route,0<=dAt d (n.flows.getD i default).class_ x)(hk:k<(n.flows.getD i default).route.length):∃l,dq n d i k=.ok l:=by
 have:=hc _ (a9 (l:=(n.flows.getD i default).route) (i:=k) hk);unfold dq;rw[if_neg (by unfold dAt at this;omega)];exact⟨_,rfl⟩
theorem GF{n:Net}{d:Xa}{i:Nat}{l:List Int}(h0:dq n d i 0=.ok l){q:List Int×Curve×List Spl}:q∈allP n d i 1 [] c0 []↔∃o∈l,∃y,hopO n d i 0 true o=.ok y/\q=([o],y,[]):=by
 rw[fj (r:=0) (ch:=[]) h0,List.mem_flatMap];refine exists_congr λo=>and_congr_right λ_=>?_;unfold iv;rcases e:hopO n d i 0 true o with e1|y
 ·simp[e]
 ·simp[e,allP]
theorem GG{n:Net}{d:Xa}{i:Nat}{l m:List Int}(h0:dq n d i 0=.ok l)(h1:dq n d i 1=.ok m){q:List Int×Curve×List Spl} :
  q∈allP n d i 2 [] c0 []↔∃o∈l,∃y,hopO n d i 0 false o=.ok y/\∃o2∈m,∃y2 p,hopO n d i 1 true o2=.ok y2/\bY y y2=.ok p/\q=([o,o2],p.res,[p]):=by
 rw[fj (r:=1) (ch:=[]) h0,List.mem_flatMap];refine exists_congr λo=>and_congr_right λ_=>?_;rcases e:hopO n d i 0 false o with e1|y
 ·simp[iv,e]
 ·have es:iv n d i ([]:List Int).length (1==0) c0 [] o=some (y,[]):=by
   show iv n d i 0 false c0 [] o=_;unfold iv;rw[e];rfl
  rw[es];dsimp only;have h1:dq n d i ([o]:List Int).length=.ok m:=by rw[List.length_singleton];exact h1
  rw[List.nil_append,fj (r:=0) (ch:=[o]) h1,List.mem_flatMap];have:∀P:Curve->Prop,(∃y',Except.ok y=(Except.ok y':Except Int Curve)/\P y')↔P y:=λP=>⟨λ⟨_,e,h⟩=>by cases e;exact h,λh=>⟨_,rfl,h⟩⟩;rw[this];refine exists_congr λo2=>and_congr_right λ_=>?_;show(q∈match iv n d i 1 true y [] o2 with |none=>[]|some z=>allP n d i 0 ([o]++[o2]) z.1 z.2)↔_;unfold iv;rcases e2:hopO n d i 1 true o2 with e3|y2
  ·simp
  ·dsimp only;rw[if_neg (ω:¬(1=0))];rcases e4:bY y y2 with e5|p
   ·simp[e4]
   ·simp[e4,allP]
theorem w8{n:Net}{d:Xa}{i:Nat}(o:Int)(z:Curve)(ps:List Spl):g9 n d i [o]=.ok (z,ps)↔hopO n d i 0 true o=.ok z/\ps=[]:=by
 have e:hopC n d i [o] 0=hopO n d i 0 true o:=rfl;unfold g9;show(match(match hopC n d i [o] 0 with |.error e=>Except.error e|.ok z=>.ok ([]++[z]):Except Int (List Curve))with |.error e=>Except.error e|.ok l=>fh (l.getD 0 c0) (l.drop 1) [])=_↔_;rw[e];rcases hopO n d i 0 true o with e1|y
 ·simp
 ·simp[fh,eq_comm]
theorem w9{n:Net}{d:Xa}{i:Nat}(o o2:Int)(z:Curve)(ps:List Spl):g9 n d i [o,o2]=.ok (z,ps)↔∃y,hopO n d i 0 false o=.ok y/\∃y2 p,hopO n d i 1 true o2=.ok y2/\bY y y2=.ok p/\z=p.res/\ps=[p]:=by
 have e:hopC n d i [o,o2] 0=hopO n d i 0 false o:=rfl;have e2:hopC n d i [o,o2] 1=hopO n d i 1 true o2:=rfl;unfold g9;show(match(match(match hopC n d i [o,o2] 0 with |.error e=>Except.error e|.ok z=>.ok ([]++[z]):Except Int (List Curve))with |.error e=>Except.error e|.ok l=>match hopC n d i [o,o2] 1 with |.error e=>Except.error e|.ok z=>.ok (l++[z]):Except Int (List Curve))with |.error e=>Except.error e|.ok l=>fh (l.getD 0 c0) (l.drop 1) [])=_↔_;rw[e,e2];rcases hopO n d i 0 false o with e1|y
 ·simp
 ·rcases hopO n d i 1 true o2 with e1|y2
  ·simp
  ·rcases e3:bY y y2 with e4|p
   ·simp[fh,e3]
   ·simp[fh,e3,eq_comm]
def jL(n:Net)(d:Xa)(i:Nat)(c:List Int):Prop:=c.length=(n.flows.getD i default).route.length/\∀k,k<c.length->∃l,dq n d i k=.ok l/\c.getD k 0∈l
theorem GH{n:Net}{d:Xa}{i:Nat}(hr:(n.flows.getD i default).route.length=1\/(n.flows.getD i default).route.length=2)(ho:∀k,k<(n.flows.getD i default).route.length->∃l,dq n d i k=.ok l){c:List Int}{z:Curve}{ps:List Spl} :
  (c,z,ps)∈allP n d i (n.flows.getD i default).route.length [] c0 []↔jL n d i c/\g9 n d i c=.ok (z,ps):=by
 unfold jL;rcases hr with hr|hr<;>rw[hr]at ho⊢
 ·obtain⟨l,h0⟩:=ho 0 ω;rw[GF h0];constructor
  ·rintro⟨o,hol,y,hy,e⟩;cases e;refine⟨⟨rfl,λk hk=>?_⟩,(w8 _ _ _).2 ⟨hy,rfl⟩⟩;obtain rfl:k=0:=by simp at hk;omega
   exact⟨l,h0,hol⟩
  ·rintro⟨⟨h1,h2⟩,h3⟩;rcases c with _|⟨o,_|⟨_,_⟩⟩
   ·simp at h1
   ·obtain⟨h4,rfl⟩:=(w8 _ _ _).1 h3;obtain⟨l',e,hm⟩:=h2 0 η;rw[h0]at e;cases e;exact⟨o,hm,z,h4,rfl⟩
   ·simp at h1
 ·obtain⟨l,h0⟩:=ho 0 ω;obtain⟨m,h1⟩:=ho 1 ω;rw[GG h0 h1];constructor
  ·rintro⟨o,hol,y,hy,o2,ho2,y2,p,hy2,hp,e⟩;cases e;refine⟨⟨rfl,λk hk=>?_⟩,(w9 _ _ _ _).2 ⟨y,hy,y2,p,hy2,hp,rfl,rfl⟩⟩;match k with
   |0=>exact⟨l,h0,hol⟩
   |1=>exact⟨m,h1,ho2⟩
   |k+2=>simp at hk;omega
  ·rintro⟨⟨h4,h2⟩,h3⟩;rcases c with _|⟨o,_|⟨o2,_|⟨_,_⟩⟩⟩
   ·simp at h4
   ·simp at h4
   ·obtain⟨y,hy,y2,p,hy2,hp,rfl,rfl⟩:=(w9 _ _ _ _).1 h3;obtain⟨l',e,hm⟩:=h2 0 η;obtain⟨m',e',hm'⟩:=h2 1 η;rw[h0]at e;rw[h1]at e';cases e;cases e';exact⟨o,hm,y,hy,o2,hm',y2,p,hy2,hp,rfl⟩
   ·simp at h4
structure BLeastQ(n:Net)(d:Xa)(i:Nat)(R:Curve->Except Int Dev)(b:Cand):Prop where
 ends:∃a c,endX n d i=some a/\endX n (refX n d) i=some c/\b.1.value<=a/\b.1.value<=c/\((b.1.meth=1/\b.1.value=a)\/(b.1.meth=3/\b.1.value=c)\/(b.1.meth=2/\jL n d i b.1.choice/\ChkK n d i b.1.choice R b.2 b.1.value))
 found:b.1.found=true
 le:∀c,jL n d i c->∀y ps,vV (g9 n d i c) R=.ok (y,ps)->b.1.value<=y
theorem GI{x:Except Int Dev}{v:Int}(h:cR x=.ok v):limB x v=true:=by
 unfold cR at h;unfold limB;rcases x with e|⟨b,w,t⟩
 ·cases h
 ·dsimp only at h⊢;split at h
  ·cases h
  ·rename_i g;cases h;rcases b with _|_
   ·simp
   ·exact absurd (.inl rfl) g
theorem GJ{n:Net}{d:Xa}(hc:jQ n d=true)(hN2:n.lines.length<=2){i:Nat}(hi:i<n.flows.length){D:Nat->Curve->Except Int Dev}{R:Curve->Except Int Dev}(hD:DelX (n.flows.getD i default).con (D i))(hR:DelX (n.flows.getD i default).con R):BLeastQ n d i R (iy n d (refX n d) D i):=by
 obtain⟨⟨⟨h,hw⟩,hd⟩,_⟩:=cY.1 hc;have hfo:FlowOk n.lines (n.flows.getD i default):=h.flow _ (by simp[hi]);have hne:=hfo.ne;have hr:(n.flows.getD i default).route.length=1\/(n.flows.getD i default).route.length=2:=by
  have:=tV hfo hN2;omega
 have hrt:=tY hc hi;have hP:=λ{c z ps}=>GH (n:=n) (d:=d) (i:=i) hr (λk hk=>EG (λx hx=>(hrt x hx).1) hk) (c:=c) (z:=z) (ps:=ps);obtain⟨⟨a,ha⟩,c,hcc⟩:=bl_end hc hi;have hB:∀{c z ps},(c,z,ps)∈allP n d i (n.flows.getD i default).route.length [] c0 []->cR (D i z)=cR (R z):=λhm=>rW (hD.same hR (lM h hw hd hi (hP.1 hm).1.1 (hP.1 hm).2).kind);unfold iy;rw[ha,hcc];obtain⟨c1,e1⟩:∃c1,c1=endB (some a) 1 (tS,[]):=⟨_,rfl⟩;rw[<-e1];have h1:c1=(⟨true,a,1,[]⟩,[]):=by
  rw[e1];show d6 (tS,[]) ⟨true,a,1,[]⟩ []=_;unfold d6;exact if_pos (.inl rfl)
 obtain⟨c2,e2⟩:∃c2,c2=iw n d i (D i) (n.flows.getD i default).route.length [] c0 [] c1:=⟨_,rfl⟩;rw[<-e2];obtain⟨t1,t2,t3⟩:=tT (D i) (allP n d i (n.flows.getD i default).route.length [] c0 []) c1;have e2:c2=(allP n d i (n.flows.getD i default).route.length [] c0 []).foldl (tryX (D i)) c1:=e2;rw[<-e2]at t1 t2 t3;obtain⟨f2,l2⟩:=t1 (by rw[h1]);obtain⟨g1,g2⟩:=lO c2 ⟨true,c,3,[]⟩ [];have g2:=g2 f2;have eE:endB (some c) 3 c2=d6 c2 ⟨true,c,3,[]⟩ []:=rfl;rw[eE];have la:c2.1.value<=a:=by rw[h1]at l2;exact l2
 refine⟨⟨a,c,ha,hcc,ω,g1,?_⟩,gO _ _ _ rfl,λl hl y ps hy=>?_⟩
 ·rcases lP c2 ⟨true,c,3,[]⟩ []with e|e
  ·rw[e];exact .inr (.inl ⟨rfl,rfl⟩)
  ·rw[e];rcases t3 with t3|⟨⟨l,z,ps⟩,hm,v,hv,t3⟩
   ·rw[t3,h1];exact .inl ⟨rfl,rfl⟩
   ·rw[t3];have hv:cR (D i z)=.ok v:=hv;obtain⟨k1,k2⟩:=hP.1 hm;rw[hB hm]at hv;obtain⟨a',r,m1,m2,m3,m4,_⟩:=(lM h hw hd hi k1.1 k2).hops;refine .inr (.inr ⟨rfl,k1,a',r,m1,m2,by rw[<-m3];exact GI hv,λj hj=>?_⟩);have e1:=(jJ m1).1;have e2:=m2.len;have e3:=k1.1;simp only[List.length_cons]at e1;have hj:j<=ps.length:=hj;rcases(ω:j=0\/j=ps.length)with rfl|rfl
    ·exact m4
    ·show ax (jP a' (ps.take ps.length));rw[List.take_length,<-m3];exact(lM h hw hd hi k1.1 k2).kind
 ·rcases hp:g9 n d i l with e|⟨z,qs⟩
  ·rw[hp]at hy;cases hy
  ·rw[hp]at hy;have hm:=hP.2 ⟨hl,hp⟩;unfold vV at hy;dsimp only at hy;rcases hv:cR (R z)with e|v
   ·rw[hv]at hy;cases hy
   ·rw[hv]at hy;cases hy;have:=(t2 _ hm y (by rw[<-hv];exact hB hm)).2;omega
def LeV(x y:Int):Prop:=y= -1\/x≠ -1/\x<=y
theorem GK(d e:Xa)(hl:d.length=e.length)(hd:d.length<=1000)(hr:∀i,i<d.length->(d.getD i []).length=(e.getD i []).length/\(d.getD i []).length<=1000)
  (hv:∀i j,i<d.length->j<(d.getD i []).length->LeV ((d.getD i []).getD j 0) ((e.getD i []).getD j 0)):∃b:Bool,b=true/\q0d 33 [aK d,aK e] (.bool b):=by
 refine opE func33 ntmps33 results33 ?_;repeat'(first|refine' aj|fail)
 all_goals try exact ariB
 refine ae (ι:={i:Nat//i<=d.length}) [0,1] [] [] ⟨0,ω⟩ (λ⟨i,_⟩=>d.length-i) (λ⟨i,_⟩=>[(5,J i)]) (λ_=>[]) ?_ ?_
 ·exact⟨⟨rfl,rfl⟩,sq1,sq1⟩
 ·rintro⟨i,hi⟩;conv=>whnf
  by_cases hil:(i:Int)<d.length
  ·have ei:(i:Int).toNat=i:=rfl;obtain⟨r1,r2⟩:=hr i ω;have hv:=λj=>hv i j ω;obtain⟨D,eD⟩:∃D,D=d.getD i []:=⟨_,rfl⟩;obtain⟨E,eE⟩:∃E,E=e.getD i []:=⟨_,rfl⟩;rw[<-eD,<-eE]at r1 hv;rw[<-eD]at r2;have eDn:d.getD (i:Int).toNat []=D:=by rw[ei,eD]
   have eEn:e.getD (i:Int).toNat []=E:=by rw[ei,eE]
   repeat'(first|(refine Λ hil λhb=>?_;conv=>whnf)|refine' aj|fail)
   all_goals try first|exact ariA|(rw[eDn];unfold ah;omega)|(rw[eEn];unfold ah;omega)|exact absurd (show((d.getD (i:Int).toNat []).length:Int)=(e.getD (i:Int).toNat []).length by rw[eDn,eEn,r1]) ‹_›
   refine ae (ι:={j:Nat//j<=D.length}) [0,1,5] [] [] ⟨0,ω⟩ (λ⟨j,_⟩=>D.length-j) (λ⟨j,_⟩=>[(6,J j)]) (λ_=>[]) ?_ ?_
   ·exact⟨⟨rfl,rfl⟩,sq1,sq1⟩
   ·rintro⟨j,hj⟩;conv=>whnf
    by_cases hjl:(j:Int)<(d.getD (i:Int).toNat []).length
    ·have hx:=hv j (by rw[eDn]at hjl;omega);unfold LeV at hx;rw[eDn]at hjl;have hjl2:(j:Int)<(d.getD (i:Int).toNat []).length:=by rw[eDn];exact hjl
     obtain⟨x,ex⟩:∃x,x=D.getD (j:Int).toNat 0:=⟨_,rfl⟩;obtain⟨y,ey⟩:∃y,y=E.getD (j:Int).toNat 0:=⟨_,rfl⟩;have ex2:(d.getD (i:Int).toNat []).getD (j:Int).toNat 0=x:=by rw[eDn,ex]
     have ey2:(e.getD (i:Int).toNat []).getD (j:Int).toNat 0=y:=by rw[eEn,ey]
     rw[show D.getD j 0=x from ex.symm,show E.getD j 0=y from ey.symm]at hx;repeat'(first|(refine Λ hjl2 λhb=>?_;conv=>whnf)|(exact aJ [] ⟨j+1,ω⟩)|refine' aj|fail)
     all_goals try first|exact ariA|(rw[eEn];omega)|(rw[eDn];omega)
    ·skip;repeat'(first|(refine Υ hjl λhb=>?_;conv=>whnf)|(exact aJ [] ⟨i+1,ω⟩)|refine' aj|fail)
     all_goals exact ariA
  ·skip;repeat'(first|(refine Υ hil λhb=>?_;conv=>whnf)|refine' bu|fail)
   all_goals first|exact⟨true,rfl,rfl⟩|exact ariA
theorem GL{n:Net}{d:Xa}(h:NetOk n)(hw:NamesOk n)(hd:ShapeOk n d):q0d 33 [aK (refX n d),aK d] (.bool true):=by
 have hl:=zO n d;have hdl:=hd.len;have hlen:=h.len;obtain ⟨_,rfl,p⟩:=GK (refX n d) d ω ω (fun i hi=>by
  have hr:=(nP hd (L:=i) ω).1;have hrow:=hd.row i ω;have hcl:=(h.line (n.lines.getD i default) (by rw[ψ,β ω];exact List.getElem_mem _)).cls;exact ⟨hr,ω⟩) (fun i j hi hj=>by
  obtain⟨hr,hr2⟩:=nP hd (L:=i) ω;have hrow:=hd.row i ω;rw[hr2 j ω];exact(tR h hw hd ω ω).2)
 exact p
theorem yg(n:Net)(d:Xa)(hc:jQ n d=true)(hN2:n.lines.length<=2):q0d 32 [n.av,aK d] (.tup [aK (refX n d),J 0]):=by
 have hf:=(cY.1 hc).1;obtain⟨⟨h,hw⟩,hd⟩:=id hf;have p0:=tK n d;rw[hc]at p0;have p1:=mR n d h hw hd hN2;refine opG func32 ntmps32 results32 λ_ _ _=>?_;repeat'(first|refine' ak|refine ab p0 ?_|refine ab p1 ?_)
 all_goals exact Ψ
theorem GM{n:Net}{d:Xa}(h:NetOk n)(hw:NamesOk n)(hd:ShapeOk n d){i:Nat}(hi:i<n.flows.length){c:List Int}(hc:c.length=(n.flows.getD i default).route.length){R:Curve->Except Int Dev}(hR:RDelF (n.flows.getD i default).con R){e:Int}(he:vV (g9 n d i c) R=.error e):e≠0:=by
 unfold vV at he;rcases hp:g9 n d i c with e1|⟨z,ps⟩
 ·rw[hp]at he;cases he;exact zC h hw hd hi hc hp
 ·rw[hp]at he;dsimp only at he;rcases hb:cR (R z)with e1|v
  ·rw[hb]at he;cases he;exact DH (λe he=>hR.err z e (lM h hw hd hi hc hp).kind he) hb
  ·rw[hb]at he;cases he
theorem GN(a:Curve)(ha:Gd a):∃R,DelX a R/\RDelF a R:=by
 obtain⟨R,h,s⟩:=GE a ha;exact⟨R,h,s,λz e hz he=>by rw[h.err hz he];decide⟩
noncomputable def Bx(n:Net)(d:Xa)(i:Nat)(ch:Int)(k:Nat):Int:=match dq n d i k with
 |.ok l=>l.getD ((ch.fdiv (2 ^ min (2*(k:Int)).toNat 8)).tmod l.length).toNat 0
 |.error _=>0
noncomputable def j3(n:Net)(d:Xa)(i:Nat)(ch:Int)(m:Nat):List Int:=(List.range m).map (Bx n d i ch)
theorem iz(n:Net)(d:Xa)(i:Nat)(ch:Int)(m:Nat):(j3 n d i ch m).length=m:=by simp[j3]
theorem By(n:Net)(d:Xa)(i:Nat)(ch:Int)(m:Nat):j3 n d i ch (m+1)=j3 n d i ch m++[Bx n d i ch m]:=by simp[j3,List.range_succ]
theorem EH(n:Net)(d:Xa)(i:Nat)(ch:Int){m k:Nat}(hk:k<m):(j3 n d i ch m).getD k 0=Bx n d i ch k:=by simp[j3,hk]
theorem EI{ch:Int}(h:0<=ch/\ch<=255)(k:Nat){m:Nat}(hm:1<=m):0<=(ch.fdiv (2 ^ k))/\ch.fdiv (2 ^ k)<=255/\0<=(ch.fdiv (2 ^ k)).tmod m/\(ch.fdiv (2 ^ k)).tmod m<m:=by
 have hp:(0:Int)<2 ^ k:=Int.pow_pos φ;have e:ch.fdiv (2 ^ k)=ch/2 ^ k:=Int.fdiv_eq_ediv_of_nonneg _ ω;rw[e];have h0:0<=ch/2 ^ k:=Int.ediv_nonneg h.1 ω;have h1:ch/2 ^ k<=ch:=Int.ediv_le_self _ h.1;rw[Int.tmod_eq_emod_of_nonneg h0];exact⟨h0,ω,Int.emod_nonneg _ ω,Int.emod_lt_of_pos _ ω⟩
theorem GO{n:Net}{d:Xa}{i:Nat}{ch:Int}(hch:0<=ch/\ch<=255)(h:NetOk n)(hd:ShapeOk n d)(hi:i<n.flows.length)(ho:∀k,k<(n.flows.getD i default).route.length->∃l,dq n d i k=.ok l):jL n d i (j3 n d i ch (n.flows.getD i default).route.length):=by
 refine⟨iz ..,λk hk=>?_⟩;rw[iz]at hk;obtain⟨l,hl⟩:=ho k hk;refine⟨l,hl,?_⟩;have hl1:=(qh h hd hi hk hl).1.1;have hx:=EI hch (min (2*(k:Int)).toNat 8) hl1;rw[EH n d i ch hk];unfold Bx;rw[hl];exact a9 ω
theorem wA{n:Net}{d:Xa}(h:NetOk n)(hd:ShapeOk n d){i:Nat}(hi:i<n.flows.length){c:List Int}(hc:jL n d i c):∀x∈c,ah x:=λx hx=>by
 obtain⟨k,hk,rfl⟩:=List.mem_iff_getElem.1 hx;obtain⟨l,hl,hm⟩:=hc.2 k hk;have:=(qh h hd hi (by rw[<-hc.1];exact hk) hl).2 _ hm;rw[show c.getD k 0=c[k] by simp[hk]]at this;unfold ah;omega
theorem Bz{n:Net}(h:NetOk n){N:Nat}{d:Xa}{k:Nat}(hx:iF n (bE n) N (some (d,k))):ShapeOk n d/\jQ n d=true:=by
 obtain⟨k1,k2,ed,k3,k4,k5⟩:=id hx;have hs:ShapeOk n d:=by rw[ed];exact gK h k
 have hfix:gg n d=d:=by
  have e:bE n (k-1+1)=gg n (bE n (k-1)):=rfl;rw[k5,(ω:k-1+1=k),<-ed]at e;exact e.symm
 have hc:xJ n d d:=by
  rw[<-ed]at k4;exact⟨k4,λi c h1 h2 h3=>⟨k4 i c h1 h2 h3,Int.le_refl _⟩⟩
 exact⟨hs,cY.2 ⟨⟨⟨h,h.names⟩,hs⟩,by rw[hfix];exact hc⟩⟩
theorem GP{x:Int}(h:0<=x/\x<18446744073709551616):IntKind.u64.wrap x=x:=by
 unfold IntKind.wrap;simp[IntKind.bits,IntKind.signed];omega
theorem wB(t:List Int)(ch:Int)(hch:0<=ch/\ch<=255):∃b:Bool,b=true/\q0d 8 [ints t,.int .u8 ch] (.bool b):=by
 have o1:=new_ok t;have hN:=net_ok (Rd.new t) 2 3 ω ω ω ω;obtain⟨hw,h2⟩:=CO (Rd.new t) 2 3 ω ω ω;obtain⟨n,s1,e1⟩:∃n s1,(Rd.new t).net 2 3=(n,s1):=⟨_,_,rfl⟩;have p1:=EZ _ o1 2 3 ω ω ω ω;rw[e1]at p1 hN hw h2;dsimp only at p1 hN hw h2;have h2:n.lines.length<=2:=h2;have hlen:=hN.len;have hfl:=hN.flen;obtain⟨_,rfl,psane⟩:=sane31;obtain⟨q,hx,p30⟩:=vY n hN hw 30 ω ω;rcases q with _|⟨d,k⟩
 ·have p30:q0d 14 [n.av,J 30] (.tup [.nils,J 0,J 5]):=p30;refine opE func8 ntmps8 results8 ?_;repeat'(first|refine' aj|refine ab psane ?_|(refine iB (yx t) rfl ?_;conv=>whnf)|refine bT p1 ?_|refine ab p30 ?_)
  all_goals try first|exact ariA|exact ag ⟨true,rfl,rfl⟩|(exfalso;omega)
 ·have p30:q0d 14 [n.av,J 30] (.tup [aK d,J k,J 0]):=p30;obtain⟨hs,hc⟩:=Bz hN hx;have hf:Full n d:=(cY.1 hc).1;obtain⟨D,hD⟩:=Hn n hN;have p4:=yg n d hc h2;have p5:=GL hN hw hs;have hfr:Full n (refX n d):=⟨⟨hN,hw⟩,jK hN hw hs⟩;have p6:=λi hi=>Ex n d hc h2 D i hi (hD i hi).1;obtain⟨B,eB⟩:∃B,B=λi=>iy n d (refX n d) D i:=⟨_,rfl⟩;have p6:∀i,i<n.flows.length->q0d 34 [n.av,aK d,J i] (.tup [.agg (bndC (B i).1),slc 5 Spl.cells default (B i).2,J 0]):=λi hi=>by rw[eB];exact p6 i hi
  have hQ:∀i,i<n.flows.length->∀R,DelX (n.flows.getD i default).con R->BLeastQ n d i R (B i):=λi hi R hR=>by rw[eB];exact GJ hc h2 hi (hD i hi).2 hR
  clear eB;have hrt:=λi hi=>tY hc (i:=i) hi;refine opE func8 ntmps8 results8 ?_;repeat'(first|refine' aj|refine ab psane ?_|(refine iB (yx t) rfl ?_;conv=>whnf)|refine bT p1 ?_|refine ab p30 ?_|refine ab p4 ?_|refine ab p5 ?_)
  all_goals try first|exact ariA|exact ag ⟨true,rfl,rfl⟩|(exfalso;omega)
  refine ae (ι:={i:Nat//i<=n.flows.length}) [1,5,6,9,58,59] [5] [] ⟨0,π _⟩ (λ⟨i,_⟩=>n.flows.length-i) (λ⟨i,_⟩=>[(60,J i)]) (λ_=>[]) ?_ ?_
  ·exact⟨⟨rfl,rfl⟩,sq1,sq1⟩
  ·rintro⟨i,hi⟩;conv=>whnf
   by_cases hil:(i:Int)<n.flows.length
   ·have hiL:i<n.flows.length:=ω;have hfo:FlowOk n.lines (n.flows.getD i default):=hN.flow _ (by simp[hiL]);have hgd:Gd (n.flows.getD i default).con:=⟨hfo.valid,hfo.con_fin⟩;have hne:=hfo.ne;have hrl:=tV hfo h2;obtain⟨R,hR1,hR2⟩:=GN _ hgd;obtain⟨⟨a,c,ea,ec,la,lc,hm⟩,hfound,hle⟩:=hQ i hiL R hR1;have ho:=λk hk=>EG (n:=n) (d:=d) (i:=i) (k:=k) (λx hx=>(hrt i hiL x hx).1) hk;have q6:=p6 i hiL;obtain⟨b,eb⟩:∃b,b=B i:=⟨_,rfl⟩;rw[<-eb]at q6 hm hfound hle la lc;clear eb;obtain⟨⟨found,val,meth,cho⟩,ps⟩:=b;dsimp only at hm hfound hle la lc;subst hfound;have q7:=DM n d i;rw[ea]at q7;have q8:=DM n (refX n d) i;rw[ec]at q8;obtain⟨N,eN⟩:∃N,N=(n.flows.getD i default).route.length:=⟨_,rfl⟩;have q9:=λk hk=>Ga n d hN hw hs i k hiL hk;have hck:=GO hch hN hs hiL ho;have q10:=Bw n d hN hw hs i hiL (j3 n d i ch N) (by rw[iz,eN]) (by rw[eN];exact wA hN hs hiL hck) R hR2;have hoe:=λe he=>GM hN hw hs hiL (c:=j3 n d i ch N) (by rw[iz,eN]) hR2 (e:=e) he;have hle:=hle _ hck;rw[<-eN]at hne hrl ho q9 hck hle;have eN2:((n.flows.getD (i:Int).toNat default).route.length:Int)=N:=by rw[eN];rfl
    have g1:¬val>a:=ω;have g2:¬val>c:=ω;repeat'(first|(refine Υ g2 λhb=>?_;conv=>whnf)|(refine Υ g1 λhb=>?_;conv=>whnf)|(refine Λ hil λhb=>?_;conv=>whnf)|refine' aj|refine ab q6 ?_|refine ab q7 ?_|refine ab q8 ?_)
    all_goals try exact ariB
    have hm3:(meth=1/\val=a)\/(meth=3/\val=c)\/(meth=2/\q0d 25 [n.av,aK d,J i,ints cho,slc 5 Spl.cells default ps,J val] (.bool true)):=by
     rcases hm with hm|hm|⟨hm,k1,k2⟩
     ·exact .inl hm
     ·exact .inr (.inl hm)
     ·obtain⟨_,rfl,p⟩:=EF n d hN hw hs i hiL cho k1.1 (wA hN hs hiL k1) R hR2 ps val k2;exact .inr (.inr ⟨hm,p⟩)
    refine ae (ι:={j:Nat//j<=N}) [1,5,6,9,11,13,14,16,17,18,58,59,60] [5,13] [] ⟨0,π _⟩ (λ⟨j,_⟩=>N-j) (λ⟨j,_⟩=>[(20,.osl 117 N),(119,J N),(120,J j)]) (λ⟨j,_⟩=>[(117,some (.arr N 1 (λq=>[J ((j3 n d i ch j).getD q 0)]) 3))]) ?_ ?_
    ·refine⟨⟨rfl,rfl⟩,?_,?_⟩;all_goals((refine' subP)<;>first|exact q0b ω λq hq=>rfl|exact Θ (congrArg (AV.osl 117) ω)|exact Ξ ω|exact sq1)
    ·rintro⟨j,hj⟩;conv=>whnf
     by_cases hjl:(j:Int)<N
     ·obtain⟨l,hl⟩:=ho j ω;have q9j:=q9 j ω;rw[hl]at q9j;have hl1:=(qh hN hs hiL ω hl).1;have hp:=EI hch (min (2*(j:Int)).toNat 8) hl1.1;have ep:l.getD ((ch.fdiv (2 ^ min (2*(j:Int)).toNat 8)).tmod l.length).toNat 0=Bx n d i ch j:=by unfold Bx;rw[hl]
      repeat'(first|(refine Λ hjl λhb=>?_;conv=>whnf)|(refine' aQ [] ⟨j+1,ω⟩<;>first|exact q0b rfl (λq hq=>by rw[By,<-ep];exact FH (iz ..))|exact sq1)|refine' aj|refine ab q9j ?_)
      all_goals try first|exact ariA|(exfalso;omega)|exact GP ω
     ·have ej:j=N:=ω;subst ej;have hav:AvLe (.isl j 1 (λq=>[J ((j3 n d i ch j).getD q 0)])) (ints (j3 n d i ch j)):=Γ (iz ..).symm λq hq=>rfl;refine a7 117 rfl rfl (λ_ _=>rfl) ?_ ?_ ?_
      ·all_goals try refine' frzZ
      ·all_goals try refine' frzZ
      ·conv=>whnf
       refine az [1,5,6,9,11,13,14,16,17,18,58,59,60,119,120] [5,13] [] [(20,ints (j3 n d i ch j))] [] ⟨⟨rfl,rfl⟩,?_,?_⟩ ?_
       ·skip;all_goals((refine' subP)<;>first|exact hav|(rw[cC];exact hav)|exact sq1)
       ·skip;all_goals((refine' subP)<;>first|exact hav|(rw[cC];exact hav)|exact sq1)
       ·conv=>whnf
        have hcs:(∃e,e≠0/\vV (g9 n d i (j3 n d i ch j)) R=.error e)\/∃y qs,vV (g9 n d i (j3 n d i ch j)) R=.ok (y,qs)/\¬val>y:=by
         rcases ho:vV (g9 n d i (j3 n d i ch j)) R with e|⟨y,qs⟩
         ·exact .inl ⟨e,hoe e ho,rfl⟩
         ·exact .inr ⟨y,qs,rfl,by have:=hle y qs ho;omega⟩
        rcases hcs with⟨e,he,hod⟩|⟨y,qs,hod,hy⟩<;>rw[hod]at q10<;>rcases hm3 with⟨rfl,rfl⟩|⟨rfl,rfl⟩|⟨rfl,p11⟩;all_goals
         repeat'(first|(refine Υ hy λhb=>?_;conv=>whnf)|(refine Υ he λhb=>?_;conv=>whnf)|(refine Υ hjl λhb=>?_;conv=>whnf)|(exact aJ [] ⟨i+1,ω⟩)|refine' aj|refine ab q10 ?_|refine ab p11 ?_)
         all_goals try first|exact ariA|(exfalso;omega)|exact absurd rfl ‹_›
   ·skip;repeat'(first|(refine Υ hil λhb=>?_;conv=>whnf)|refine' aj|refine ab psane ?_)
    all_goals try exact ariA
    exact ag ⟨true,rfl,rfl⟩
end Go.Nc