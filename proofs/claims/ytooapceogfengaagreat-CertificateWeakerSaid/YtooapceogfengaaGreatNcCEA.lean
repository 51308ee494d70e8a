/- Parts. -/
import Derived.Test.YtooapceogfengaaGreatNcBNB
import Derived.Test.YtooapceogfengaaGreatNcFBA
namespace Go.Nc
open Go.Proofs.Tryz
open Go.Proofs
set_option maxHeartbeats 8000000
theorem zb{n:Net}{d:Xa}(hc:fh n d=true){i:Nat}(hi:i<n.flows.length):∀x∈(n.flows.getD i default).route,0<=dAt d (n.flows.getD i default).class_ x/\0<=dAt (refX n d) (n.flows.getD i default).class_ x:=λx hx=>by
 obtain⟨⟨⟨h,hw⟩,hd⟩,hp⟩:=bV.1 hc;have hfo:FlowOk n.lines (n.flows.getD i default):=h.flow _ (by simp[hi]);have h1:=hfo.lines x hx;have h2:=hfo.cls2 x hx;have h0:=hfo.cls;have hm:=mem_of hi hx;obtain⟨L,eL⟩:=γ h1.1;obtain⟨c,ec⟩:=γ h0;subst eL;rw[ec]at hm h2⊢;rw[χ]at h2;have hx:=hp.1 L c ω h2 λe=>by rw[e]at hm;cases hm
 have hx:0<=(d.getD L []).getD c 0:=hx;have hb:=yY h hw hd (L:=L) (C:=c) ω h2;have hr:=(yX hd (L:=L) ω).2 c (by have:=hd.row L ω;omega);refine⟨hx,?_⟩;show 0<=((refX n d).getD L []).getD c 0;rw[hr];omega
theorem G3{n:Net}{d:Xa}(hc:fh n d=true){i:Nat}(hi:i<n.flows.length):(∃a,endX n d i=some a)/\∃c,endX n (refX n d) i=some c:=by
 obtain⟨hf,_⟩:=bV.1 hc;have hr:=zb hc hi;rw[mD hf hi,mD ⟨hf.1,jE hf.1.1 hf.1.2 hf.2⟩ hi];exact⟨⟨_,(jF _ _ _).2 ⟨λx hx=>(hr x hx).1,rfl⟩⟩,_,(jF _ _ _).2 ⟨λx hx=>(hr x hx).2,rfl⟩⟩
theorem HX{n:Net}{d:Xa}{i k:Nat}(hc:∀x∈(n.flows.getD i default).route,0<=dAt d (n.flows.getD i default).class_ x)(hk:k<(n.flows.getD i default).route.length):∃l,gI n d i k=.ok l:=by
 have:=hc _ (a8 (l:=(n.flows.getD i default).route) (i:=k) hk);unfold gI;rw[if_neg (by unfold dAt at this;omega)];exact⟨_,rfl⟩
theorem FV{n:Net}{d:Xa}{i:Nat}{l:List Int}(h0:gI n d i 0=.ok l){q:List Int×Curve×List Spl}:q∈allP n d i 1 [] c0 []↔∃o∈l,∃y,hopO n d i 0 true o=.ok y/\q=([o],y,[]):=by
 rw[lC (r:=0) (ch:=[]) h0,List.mem_flatMap];refine exists_congr λo=>and_congr_right λ_=>?_;unfold lB;rcases e:hopO n d i 0 true o with e1|y
 ·simp[e]
 ·simp[e,allP]
theorem FW{n:Net}{d:Xa}{i:Nat}{l m:List Int}(h0:gI n d i 0=.ok l)(h1:gI n d i 1=.ok m){q:List Int×Curve×List Spl} :
  q∈allP n d i 2 [] c0 []↔∃o∈l,∃y,hopO n d i 0 false o=.ok y/\∃o2∈m,∃y2 p,hopO n d i 1 true o2=.ok y2/\dm y y2=.ok p/\q=([o,o2],p.res,[p]):=by
 rw[lC (r:=1) (ch:=[]) h0,List.mem_flatMap];refine exists_congr λo=>and_congr_right λ_=>?_;rcases e:hopO n d i 0 false o with e1|y
 ·simp[lB,e]
 ·have es:lB n d i ([]:List Int).length (1==0) c0 [] o=some (y,[]):=by
   show lB n d i 0 false c0 [] o=_;unfold lB;rw[e];rfl
  rw[es];dsimp only;have h1:gI n d i ([o]:List Int).length=.ok m:=by rw[List.length_singleton];exact h1
  rw[List.nil_append,lC (r:=0) (ch:=[o]) h1,List.mem_flatMap];have:∀P:Curve->Prop,(∃y',Except.ok y=(Except.ok y':Except Int Curve)/\P y')↔P y:=λP=>⟨λ⟨_,e,h⟩=>by cases e;exact h,λh=>⟨_,rfl,h⟩⟩;rw[this];refine exists_congr λo2=>and_congr_right λ_=>?_;show(q∈match lB n d i 1 true y [] o2 with |none=>[]|some z=>allP n d i 0 ([o]++[o2]) z.1 z.2)↔_;unfold lB;rcases e2:hopO n d i 1 true o2 with e3|y2
  ·simp
  ·dsimp only;rw[if_neg (ω:¬(1=0))];rcases e4:dm y y2 with e5|p
   ·simp[e4]
   ·simp[e4,allP]
theorem vJ{n:Net}{d:Xa}{i:Nat}(o:Int)(z:Curve)(ps:List Spl):xp n d i [o]=.ok (z,ps)↔hopO n d i 0 true o=.ok z/\ps=[]:=by
 have e:hopC n d i [o] 0=hopO n d i 0 true o:=rfl;unfold xp;show(match(match hopC n d i [o] 0 with |.error e=>Except.error e|.ok z=>.ok ([]++[z]):Except Int (List Curve))with |.error e=>Except.error e|.ok l=>l9 (l.getD 0 c0) (l.drop 1) [])=_↔_;rw[e];rcases hopO n d i 0 true o with e1|y
 ·simp
 ·simp[l9,eq_comm]
theorem vK{n:Net}{d:Xa}{i:Nat}(o o2:Int)(z:Curve)(ps:List Spl):xp n d i [o,o2]=.ok (z,ps)↔∃y,hopO n d i 0 false o=.ok y/\∃y2 p,hopO n d i 1 true o2=.ok y2/\dm y y2=.ok p/\z=p.res/\ps=[p]:=by
 have e:hopC n d i [o,o2] 0=hopO n d i 0 false o:=rfl;have e2:hopC n d i [o,o2] 1=hopO n d i 1 true o2:=rfl;unfold xp;show(match(match(match hopC n d i [o,o2] 0 with |.error e=>Except.error e|.ok z=>.ok ([]++[z]):Except Int (List Curve))with |.error e=>Except.error e|.ok l=>match hopC n d i [o,o2] 1 with |.error e=>Except.error e|.ok z=>.ok (l++[z]):Except Int (List Curve))with |.error e=>Except.error e|.ok l=>l9 (l.getD 0 c0) (l.drop 1) [])=_↔_;rw[e,e2];rcases hopO n d i 0 false o with e1|y
 ·simp
 ·rcases hopO n d i 1 true o2 with e1|y2
  ·simp
  ·rcases e3:dm y y2 with e4|p
   ·simp[l9,e3]
   ·simp[l9,e3,eq_comm]
def lD(n:Net)(d:Xa)(i:Nat)(c:List Int):Prop:=c.length=(n.flows.getD i default).route.length/\∀k,k<c.length->∃l,gI n d i k=.ok l/\c.getD k 0∈l
theorem FX{n:Net}{d:Xa}{i:Nat}(hr:(n.flows.getD i default).route.length=1\/(n.flows.getD i default).route.length=2)(ho:∀k,k<(n.flows.getD i default).route.length->∃l,gI n d i k=.ok l){c:List Int}{z:Curve}{ps:List Spl} :
  (c,z,ps)∈allP n d i (n.flows.getD i default).route.length [] c0 []↔lD n d i c/\xp n d i c=.ok (z,ps):=by
 unfold lD;rcases hr with hr|hr<;>rw[hr]at ho⊢
 ·obtain⟨l,h0⟩:=ho 0 ω;rw[FV h0];constructor
  ·rintro⟨o,hol,y,hy,e⟩;cases e;refine⟨⟨rfl,λk hk=>?_⟩,(vJ _ _ _).2 ⟨hy,rfl⟩⟩;obtain rfl:k=0:=by simp at hk;omega
   exact⟨l,h0,hol⟩
  ·rintro⟨⟨h1,h2⟩,h3⟩;rcases c with _|⟨o,_|⟨_,_⟩⟩
   ·simp at h1
   ·obtain⟨h4,rfl⟩:=(vJ _ _ _).1 h3;obtain⟨l',e,hm⟩:=h2 0 η;rw[h0]at e;cases e;exact⟨o,hm,z,h4,rfl⟩
   ·simp at h1
 ·obtain⟨l,h0⟩:=ho 0 ω;obtain⟨m,h1⟩:=ho 1 ω;rw[FW h0 h1];constructor
  ·rintro⟨o,hol,y,hy,o2,ho2,y2,p,hy2,hp,e⟩;cases e;refine⟨⟨rfl,λk hk=>?_⟩,(vK _ _ _ _).2 ⟨y,hy,y2,p,hy2,hp,rfl,rfl⟩⟩;match k with
   |0=>exact⟨l,h0,hol⟩
   |1=>exact⟨m,h1,ho2⟩
   |k+2=>simp at hk;omega
  ·rintro⟨⟨h4,h2⟩,h3⟩;rcases c with _|⟨o,_|⟨o2,_|⟨_,_⟩⟩⟩
   ·simp at h4
   ·simp at h4
   ·obtain⟨y,hy,y2,p,hy2,hp,rfl,rfl⟩:=(vK _ _ _ _).1 h3;obtain⟨l',e,hm⟩:=h2 0 η;obtain⟨m',e',hm'⟩:=h2 1 η;rw[h0]at e;rw[h1]at e';cases e;cases e';exact⟨o,hm,y,hy,o2,hm',y2,p,hy2,hp,rfl⟩
   ·simp at h4
def dn(n:Net):Net:=⟨n.names,n.lines,n.flows.take (n.flows.length-1)⟩
theorem pG(n:Net):(dn n).flows.length=n.flows.length-1:=by
 show(n.flows.take (n.flows.length-1)).length=_;rw[List.length_take];omega
theorem pH(n:Net){i:Nat}(hi:i<n.flows.length-1):(dn n).flows.getD i default=n.flows.getD i default:=by
 show(n.flows.take (n.flows.length-1)).getD i default=_;rw[ψ,ψ,List.getElem?_take,if_pos hi]
theorem FY{n:Net}(h:NetOk n):NetOk (dn n):=by
 have hl:=pG n;have hf:=h.flen;exact ⟨h.len,ω,h.nlen,h.word,h.nodup,h.line,fun f hf=>h.fword f (List.mem_of_mem_take hf),by
  show((n.flows.take (n.flows.length-1)).map Flow.name).Nodup;rw[List.map_take];exact List.Sublist.nodup (List.take_sublist _ _) h.fnodup,λf hf=>h.flow f (List.mem_of_mem_take hf)⟩
theorem pI{m:Net}(h:NetOk m){d:Xa}(hd:ShapeOk m d)(fd:DX m d)(cd:ms m d (dI m d)){k:Nat}(hk:∀j,1<=j->j<=k->Used m (λi c=>0<=at2 (bh m j) i c)) :
  ∀j,j<=k->∀i c:Nat,i<m.lines.length->(c:Int)<(m.lines.getD i default).classes->0<=at2 (bh m j) i c/\at2 (bh m j) i c<=at2 d i c
 |0,_,i,c,hi,hc=>by
  rw[show at2 (bh m 0) i c=0 from uY hi hc];exact⟨Int.le_refl 0,fd i c hi hc⟩
 |j+1,hj,i,c,hi,hc=>by
  have ih:=pI h hd fd cd hk j ω;have hs:=cH h j;have hcs:=DY fd cd i c hi hc;have e:at2 (bh m (j+1)) i c=dW m (bh m j) i c:=tt m (bh m j) hi hc;rcases Classical.em (au m i c=[])with hm|hm
  ·rw[e,mE hm];exact⟨Int.le_refl 0,fd i c hi hc⟩
  ·have h1:0<=at2 (bh m (j+1)) i c:=hk (j+1) ω hj i c hi hc hm;rw[e]at h1⊢;refine⟨h1,Int.le_trans (AM h hs hd (FU hs.dim hd.dim ih) hi ω h1 hcs.1) hcs.2⟩
theorem xu{m:Net}(h:NetOk m){d x:Xa}{N k:Nat}(hx:kg m (bh m) N (some (x,k)))(hd:ShapeOk m d)(fd:DX m d)(cd:ms m d (dI m d)):∀i c:Nat,i<m.lines.length->(c:Int)<(m.lines.getD i default).classes->0<=at2 x i c/\at2 x i c<=at2 d i c:=by
 obtain⟨k1,_,ed,k3,k4,_⟩:=hx;rw[ed];refine pI h hd fd cd (k:=k) (λj h1 h2=>?_) k (ξ _);rcases ζ j k with g|g
 ·exact(k3 j h1 ω).1
 ·obtain rfl:j=k:=ω;exact k4
theorem dle_of{n:Net}{a b:Xa}(ha:DimOk n a)(hb:DimOk n b)(h:∀i c:Nat,i<n.lines.length->(c:Int)<(n.lines.getD i default).classes->0<=at2 a i c/\at2 a i c<=at2 b i c):DLe a b:=λi j=>by
 rcases ζ i n.lines.length with hi|hi
 ·rcases Int.lt_or_le (j:Int) (n.lines.getD i default).classes with hj|hj
  ·exact(h i j hi hj).2
  ·have h1:=ha.row i hi;have h2:=hb.row i hi;rw[gB (l:=a.getD i []) ω,gB (l:=b.getD i []) ω];exact Int.le_refl 0
 ·rw[gB (l:=a) (by rw[ha.len];exact hi),gB (l:=b) (by rw[hb.len];exact hi)];exact Int.le_refl 0
theorem zc{n:Net}{d:Xa}(hn:fh n d=true)(hm:fh (dn n) d=true){i:Nat}(hi:i<n.flows.length-1):endX (dn n) d i=endX n d i:=by
 rw[n8 hn ω,n8 hm (by rw[pG];exact hi),pH n hi]
theorem end_le{m:Net}{x d:Xa}(hx:fh m x=true)(hd:fh m d=true)(hle:DLe x d){i:Nat}(hi:i<m.flows.length):∃a b,endX m x i=some a/\endX m d i=some b/\a<=b:=by
 refine⟨_,_,n8 hx hi,n8 hd hi,?_⟩;have hs:=G2 (λy=>hle y.toNat (m.flows.getD i default).class_.toNat) (m.flows.getD i default).route;exact Int.add_le_add_left hs _
def ExC(n:Net)(d:Xa)(i:Nat)(D:Curve->Except Int Dev)(m:Int)(ch:List Int)(ps:List Spl)(v:Int):Prop :=
 (m=1/\ch=[]/\ps=[]/\endX n d i=some v)\/(m=3/\ch=[]/\ps=[]/\endX n (refX n d) i=some v)\/(m=2/\lD n d i ch/\∀lim,ChkP n d i ch D ps lim↔v<=lim)
theorem DZ{x:Except Int Dev}{v:Int}(h:ju x=.ok v)(lim:Int):limB x lim=true↔v<=lim:=by
 unfold ju at h;unfold limB;rcases x with e|⟨b,w,t⟩
 ·cases h
 ·dsimp only at h⊢;split at h
  ·cases h
  ·rename_i g;cases h;rcases b with _|_
   ·simp
   ·exact absurd (.inl rfl) g
theorem Ea{n:Net}{d:Xa}(hf:Full n d){i:Nat}(hi:i<n.flows.length){a:Int}(ha:endX n d i=some a):0<=a/\a<=10000:=by
 obtain⟨⟨h,_⟩,hd⟩:=id hf;have hfo:FlowOk n.lines (n.flows.getD i default):=h.flow _ (by simp[hi]);rw[mD hf hi]at ha;have hne:=hfo.ne;have hb:=uf (fun x hx=>by
  have h1:=hfo.lines x hx;have h2:=hfo.cls2 x hx;have h0:=hfo.cls;have hr:=hd.row x.toNat ω;exact(hd.val x.toNat (n.flows.getD i default).class_.toNat ω ω).2) ha
 omega
theorem DelX.nn{a:Curve}{D:Curve->Except Int Dev}(h:DelX a D){z:Curve}(hz:a7 z){v:Int}(hv:ju (D z)=.ok v):0<=v/\v<=10000:=by
 obtain⟨x,ex⟩:∃x,x=D z:=⟨_,rfl⟩;have hd:∀v w,x=.ok (false,v,w)->0<=v:=λv w e=>by
  rcases hz with hz|⟨k,hk,rfl⟩
  ·obtain⟨_,_,_,_,h3⟩:=h.nrm z hz;rw[<-ex,e]at h3;split at h3
   ·exact(h3.2 rfl).1
   ·cases h3
  ·have h3:=h.wait k hk;rw[<-ex,e]at h3;exact(h3.2 rfl).1
 rw[<-ex]at hv;clear ex;rcases x with e|⟨b,u,w⟩
 ·cases hv
 ·unfold ju at hv;dsimp only at hv;split at hv
  ·cases hv
  ·rename_i g;cases hv;rcases b with _|_
   ·exact⟨hd _ _ rfl,ω⟩
   ·exact absurd (.inl rfl) g
theorem zd{n:Net}{d:Xa}(hc:fh n d=true)(hN2:n.lines.length<=2){i:Nat}(hi:i<n.flows.length){D:Nat->Curve->Except Int Dev}(hD:DelX (n.flows.getD i default).con (D i)) :
  (jI n d (refX n d) D i).1.found=true/\(0<=(jI n d (refX n d) D i).1.value/\(jI n d (refX n d) D i).1.value<=10000)/\ExC n d i (D i) (jI n d (refX n d) D i).1.meth (jI n d (refX n d) D i).1.choice (jI n d (refX n d) D i).2 (jI n d (refX n d) D i).1.value:=by
 obtain⟨⟨⟨h,hw⟩,hd⟩,_⟩:=bV.1 hc;have hfo:FlowOk n.lines (n.flows.getD i default):=h.flow _ (by simp[hi]);have hne:=hfo.ne;have hr:(n.flows.getD i default).route.length=1\/(n.flows.getD i default).route.length=2:=by
  have:=yZ hfo hN2;omega
 have hrt:=zb hc hi;have hP:=λ{c z ps}=>FX (n:=n) (d:=d) (i:=i) hr (λk hk=>HX (λx hx=>(hrt x hx).1) hk) (c:=c) (z:=z) (ps:=ps);obtain⟨⟨a,ha⟩,c,hcc⟩:=G3 hc hi;unfold jI;rw[ha,hcc];obtain⟨c1,e1⟩:∃c1,c1=endB (some a) 1 (v8,[]):=⟨_,rfl⟩;rw[<-e1];have h1:c1=(⟨true,a,1,[]⟩,[]):=by
  rw[e1];show dA (v8,[]) ⟨true,a,1,[]⟩ []=_;unfold dA;exact if_pos (.inl rfl)
 obtain⟨c2,e2⟩:∃c2,c2=iJ n d i (D i) (n.flows.getD i default).route.length [] c0 [] c1:=⟨_,rfl⟩;rw[<-e2];obtain⟨t1,t2,t3⟩:=DQ (D i) (allP n d i (n.flows.getD i default).route.length [] c0 []) c1;have e2:c2=(allP n d i (n.flows.getD i default).route.length [] c0 []).foldl (tryX (D i)) c1:=e2;rw[<-e2]at t1 t2 t3;obtain⟨f2,l2⟩:=t1 (by rw[h1]);have eE:endB (some c) 3 c2=dA c2 ⟨true,c,3,[]⟩ []:=rfl;rw[eE];refine⟨jv _ _ _ rfl,?_⟩;have hF:Full n d:=⟨⟨h,hw⟩,hd⟩;rcases vA c2 ⟨true,c,3,[]⟩ []with e|e
 ·rw[e];exact⟨Ea ⟨⟨h,hw⟩,jE h hw hd⟩ hi hcc,.inr (.inl ⟨rfl,rfl,rfl,hcc⟩)⟩
 ·rw[e];rcases t3 with t3|⟨⟨l,z,ps⟩,hm,v,hv,t3⟩
  ·rw[t3,h1];exact⟨Ea hF hi ha,.inl ⟨rfl,rfl,rfl,ha⟩⟩
  ·rw[t3];have hv:ju (D i z)=.ok v:=hv;obtain⟨k1,k2⟩:=hP.1 hm;obtain⟨a',r,m1,m2,m3,m4,_⟩:=(yN h hw hd hi k1.1 k2).hops;refine⟨hD.nn (yN h hw hd hi k1.1 k2).kind hv,.inr (.inr ⟨rfl,k1,λlim=>?_⟩)⟩;show ChkP n d i l (D i) ps lim↔v<=lim;rw[<-DZ hv lim];constructor
   ·rintro⟨a2,r2,g1,_,g3⟩;rw[m1]at g1;cases g1;rw[m3];exact g3
   ·intro g;exact⟨a',r,m1,m2,by rw[<-m3];exact g⟩
noncomputable def bestC(n:Net)(d less:Xa)(D:Nat->Curve->Except Int Dev)(k:Nat):List Cand:=(List.range k).map λi=>jI n d less D i
instance:Inhabited Cand:=⟨(v8,[])⟩
theorem AN{n:Net}{d:Xa}(hfix:dI n d=d)(hp:ms n d d):DX n d:=λi c hi hc=>by
 rcases Classical.em (au n i c=[])with hm|hm
 ·have e:=tt n d hi hc;rw[mE hm,hfix]at e;omega
 ·exact hp.1 i c hi hc hm
theorem vL{n:Net}(h:NetOk n){N:Nat}{d:Xa}{k:Nat}(hx:kg n (bh n) N (some (d,k))):ShapeOk n d/\dI n d=d/\ms n d d/\fh n d=true:=by
 obtain⟨k1,k2,ed,k3,k4,k5⟩:=id hx;have hs:ShapeOk n d:=by rw[ed];exact cH h k
 have hfix:dI n d=d:=by
  have e:bh n (k-1+1)=dI n (bh n (k-1)):=rfl;rw[k5,(ω:k-1+1=k),<-ed]at e;exact e.symm
 have hc:ms n d d:=by
  rw[<-ed]at k4;exact⟨k4,λi c h1 h2 h3=>⟨k4 i c h1 h2 h3,Int.le_refl _⟩⟩
 exact⟨hs,hfix,hc,bV.2 ⟨⟨⟨h,h.names⟩,hs⟩,by rw[hfix];exact hc⟩⟩
theorem Eb(n:Net)(d:Xa)(hf:Full n d):q0d 15 [n.av,a9 d] (.bool (fh n d)):=by
 obtain⟨b,hb,p⟩:=FP n d hf.1.1 hf.1.2 hf.2;rw[rz hf hb]at p;exact p
theorem G4{n:Net}{d:Xa}(hf:Full n d){i:Nat}(hi:i<n.flows.length){a:Int}(ha:endX n d i=some a)(x m:Int):q0d 77 [n.av,a9 d,J i,.agg (bL (⟨true,x,m,[]⟩,[]))] (.bool (decide (a<=x))):=by
 have p:=DW n d i;rw[ha]at p;have p:q0d 69 [n.av,a9 d,J i] (.tup [J a,.bool true]):=p;show q0d 77 [n.av,a9 d,J i,.agg [.bool true,J x,J m,ints [],slc 5 Spl.cells default []]] (.bool (decide (a<=x)));by_cases h:a<=x
 ·rw[decide_eq_true h];refine opG func77 ntmps77 results77 λ_ _ _=>?_;repeat'(first|refine' aj|refine ab p ?_)
  all_goals first|exact Ψ|(exfalso;omega)|omega
 ·rw[decide_eq_false h];refine opG func77 ntmps77 results77 λ_ _ _=>?_;repeat'(first|refine' aj|refine ab p ?_)
  all_goals first|exact Ψ|(exfalso;omega)|omega
def HY:LObj:=.map [(J 1,.fn 77 []),(J 3,.fn 78 []),(J 2,.fn 80 [])]
theorem zh(ids:List Nat):obCl ids HY:=λk v h=>by
 simp only[List.mem_cons,List.not_mem_nil,or_false,Prod.mk.injEq]at h;rcases h with⟨rfl,rfl⟩|⟨rfl,rfl⟩|⟨rfl,rfl⟩<;>exact⟨rfl,rfl⟩
theorem kz:q0c 48 [] [] (.mref 904) [(904,HY)]:=by
 refine opG func48 ntmps48 results48 (λ_ _ _=>?_) (hcl:=⟨rfl,rfl,rfl,by simp,bD (zh _),rfl⟩);repeat'(first|(refine gv ?_;conv=>whnf)|(refine Side.mk ?_ ?_;rotate_left;conv=>whnf)|(refine VLook.mk ⟨none,rfl,?_⟩;conv=>whnf))
 refine⟨⟨[(0,.mref 904)],[(904,some HY)]⟩,fF [(904,1)] ⟨⟨rfl,rfl⟩,⟨⟨zh _,?_⟩,trivial⟩,⟨rfl,Ψ⟩,trivial⟩,Ψ,rfl,trivial⟩;exact q0a
theorem xv(n:Net)(d:Xa)(hc:fh n d=true)(hN2:n.lines.length<=2):q0d 79 [n.av,a9 d] (.tup [a9 (refX n d),J 0]):=by
 have hf:=(bV.1 hc).1;obtain⟨⟨h,hw⟩,hd⟩:=id hf;have p0:=tr n d;rw[hc]at p0;have p1:=r7 n d h hw hd hN2;refine opG func79 ntmps79 results79 λ_ _ _=>?_;repeat'(first|refine' aj|refine ab p0 ?_|refine ab p1 ?_)
 all_goals exact Ψ
theorem FZ{n:Net}{d:Xa}(hc:fh n d=true)(hN2:n.lines.length<=2){i:Nat}(hi:i<n.flows.length){a:Int}(ha:endX n (refX n d) i=some a)(x m:Int):q0d 78 [n.av,a9 d,J i,.agg (bL (⟨true,x,m,[]⟩,[]))] (.bool (decide (a<=x))):=by
 obtain⟨⟨⟨h,hw⟩,hd⟩,_⟩:=bV.1 hc;have p0:=xv n d hc hN2;have p1:=G4 ⟨⟨h,hw⟩,jE h hw hd⟩ hi ha x m;refine opG func78 ntmps78 results78 λ_ _ _=>?_;repeat'(first|refine' aj|refine ab p0 ?_|refine ab p1 ?_)
 all_goals first|exact Ψ|(exfalso;omega)|omega
theorem AO{n:Net}{d:Xa}(h:NetOk n)(hd:ShapeOk n d){i:Nat}(hi:i<n.flows.length){c:List Int}(hc:lD n d i c):∀x∈c,ah x:=λx hx=>by
 obtain⟨k,hk,rfl⟩:=List.mem_iff_getElem.1 hx;obtain⟨l,hl,hm⟩:=hc.2 k hk;have:=(xr h hd hi (by rw[<-hc.1];exact hk) hl).2 _ hm;rw[show c.getD k 0=c[k] by simp[hk]]at this;unfold ah;omega
theorem Ga{n:Net}{d:Xa}(hf:Full n d){i:Nat}(hi:i<n.flows.length){D:Curve->Except Int Dev}(hD:DelF (n.flows.getD i default).con D){c:List Int}(hc:lD n d i c){ps:List Spl}{v:Int}(hv:∀lim,ChkP n d i c D ps lim↔v<=lim)(x m:Int):q0d 80 [n.av,a9 d,J i,.agg (bL (⟨true,x,m,c⟩,ps))] (.bool (decide (v<=x))):=by
 obtain⟨r,hr,p0⟩:=D1 n d hf.1.1 hf.1.2 hf.2 i hi c hc.1 (AO hf.1.1 hf.2 hi hc) D hD ps x;rw[hv]at hr;obtain rfl:r=decide (v<=x):=by
  rcases r with _|_
  ·exact(decide_eq_false λe=>by have:=hr.2 e;cases this).symm
  ·exact(decide_eq_true (hr.1 rfl)).symm
 refine opG func80 ntmps80 results80 λ_ _ _=>?_;repeat'(first|refine' aj|refine ab p0 ?_)
 all_goals first|exact Ψ|(exfalso;omega)|omega
theorem Gb{n:Net}{d:Xa}(hc:fh n d=true)(hN2:n.lines.length<=2){i:Nat}(hi:i<n.flows.length){D:Curve->Except Int Dev}(hD:DelF (n.flows.getD i default).con D)(c:Cand)(hf:c.1.found=true){v:Int}(h:ExC n d i D c.1.meth c.1.choice c.2 v):q0d 24 [n.av,a9 d,J i,.agg (bL c)] (.bool (decide (v<=c.1.value))):=by
 obtain⟨⟨f,x,m,ch⟩,ps⟩:=c;dsimp only at hf h⊢;subst hf;have hF:=(bV.1 hc).1;have hfl:=hF.1.1.flen;have p0:=tr n d;rw[hc]at p0;rcases h with⟨rfl,rfl,rfl,h⟩|⟨rfl,rfl,rfl,h⟩|⟨rfl,h1,h2⟩
 ·have p1:=G4 hF hi h x 1;refine opG func24 ntmps24 results24 λ_ _ _=>?_;repeat'(first|refine' aj|refine ab p0 ?_|(refine cO kz rfl ?_;conv=>whnf)|(refine VLook.mk ⟨some (_,_),rfl,?_⟩;conv=>whnf)|refine ab p1 ?_)
  all_goals first|exact Ψ|(exfalso;omega)|omega
 ·have p1:=FZ hc hN2 hi h x 3;refine opG func24 ntmps24 results24 λ_ _ _=>?_;repeat'(first|refine' aj|refine ab p0 ?_|(refine cO kz rfl ?_;conv=>whnf)|(refine VLook.mk ⟨some (_,_),rfl,?_⟩;conv=>whnf)|refine ab p1 ?_)
  all_goals first|exact Ψ|(exfalso;omega)|omega
 ·have p1:=Ga hF hi hD h1 h2 x 2;refine opG func24 ntmps24 results24 λ_ _ _=>?_;repeat'(first|refine' aj|refine ab p0 ?_|(refine cO kz rfl ?_;conv=>whnf)|(refine VLook.mk ⟨some (_,_),rfl,?_⟩;conv=>whnf)|refine ab p1 ?_)
  all_goals first|exact Ψ|(exfalso;omega)|omega
def tu(n:Net)(d:Xa)(D:Nat->Curve->Except Int Dev)(L:List Cand)(V:Nat->Int):Prop:=∀i,i<n.flows.length->(L.getD i default).1.found=true/\ExC n d i (D i) (L.getD i default).1.meth (L.getD i default).1.choice (L.getD i default).2 (V i)
def vM(d:Xa)(L:List Cand):AV:=.agg [a9 d,slc 5 bL default L]
theorem lE{n:Net}{d:Xa}(hc:fh n d=true)(hN2:n.lines.length<=2){D:Nat->Curve->Except Int Dev}(hD:∀i,i<n.flows.length->DelF (n.flows.getD i default).con (D i)){L:List Cand}{V:Nat->Int}(hL:L.length=n.flows.length)(hx:tu n d D L V) :
  ∃b:Bool,(b=true↔∀i,i<n.flows.length->V i<=(L.getD i default).1.value)/\q0d 9 [n.av,vM d L] (.bool b):=by
 have hF:=(bV.1 hc).1;have hfl:=hF.1.1.flen;have p0:=tr n d;rw[hc]at p0;unfold vM;refine opE func9 ntmps9 results9 ?_;repeat'(first|refine' ag|refine ab p0 ?_)
 all_goals try exact ariB
 refine ae (ι:={j:Nat//j<=n.flows.length/\∀q,q<j->V q<=(L.getD q default).1.value}) [2,3,22,23] [2,3] [] ⟨0,π _,ν⟩ (λ⟨j,_⟩=>n.flows.length-j) (λ⟨j,_⟩=>[(24,J j)]) (λ_=>[]) ?_ ?_
 ·exact⟨⟨rfl,rfl⟩,sq1,sq1⟩
 ·rintro⟨j,hj,hI⟩;conv=>whnf
  by_cases hjl:(j:Int)<L.length
  ·have hj2:j<n.flows.length:=ω;have p1:=Gb hc hN2 hj2 (hD j hj2) (L.getD j default) (hx j hj2).1 (hx j hj2).2;by_cases hv:V j<=(L.getD j default).1.value
   ·rw[decide_eq_true hv]at p1;repeat'(first|(refine Λ hjl λhb=>?_;conv=>whnf)|(exact aL [] ⟨j+1,ω,λq hq=>(ζ q j).elim (hI q) λg=>by(obtain rfl:q=j:=ω);exact hv⟩)|refine' ag|refine ab p1 ?_)
    all_goals try exact ariA
   ·rw[decide_eq_false hv]at p1;repeat'(first|(refine Λ hjl λhb=>?_;conv=>whnf)|refine' ag|refine ab p1 ?_)
    all_goals try exact ariA
    exact ac ⟨false,rfl,λh=>(by cases h),λh=>absurd (h j hj2) hv⟩
  ·skip;repeat'(first|(refine Υ hjl λhb=>?_;conv=>whnf)|refine' ag|fail)
   all_goals try exact ariA
   exact ac ⟨true,rfl,λ_ i hi=>hI i ω,λ_=>rfl⟩
theorem Gc{n:Net}{d:Xa}{L:List Cand}(hL:¬(L.length:Int)=(n.flows.length:Nat)):q0d 9 [n.av,vM d L] (.bool false):=by
 unfold vM;refine opG func9 ntmps9 results9 λ_ _ _=>?_;repeat'(first|(refine ϑ hL λhb=>?_;conv=>whnf)|refine' aj|fail)
 all_goals first|exact Ψ|(exfalso;omega)|omega
theorem HZ(n:Net)(d:Xa)(hc:fh n d=true)(hN2:n.lines.length<=2){k:Nat}(p0:q0d 21 [n.av,J 60] (.tup [a9 d,J k,J 0])){D:Nat->Curve->Except Int Dev}(hD:∀i,i<n.flows.length->DelF (n.flows.getD i default).con (D i)) :
  ∃l,l=bestC n d (refX n d) D n.flows.length/\q0d 8 [n.av] (.tup [vM d l,J 0]):=by
 have hF:=(bV.1 hc).1;have hfl:=hF.1.1.flen;have p1:=λi hi=>HW n d hc hN2 D i hi (hD i hi);obtain⟨B,eB⟩:∃B,B=λi=>jI n d (refX n d) D i:=⟨_,rfl⟩;have eC:∀k,bestC n d (refX n d) D k=(List.range k).map B:=λk=>by rw[eB];rfl
 have p1:∀i,i<n.flows.length->q0d 22 [n.av,a9 d,J i] (.tup [.agg (bndC (B i).1),slc 5 Spl.cells default (B i).2,J 0]):=λi hi=>by rw[eB];exact p1 i hi
 rw[eC];have hlen:∀k,((List.range k).map B).length=k:=λk=>by simp
 have hsucc:∀k,(List.range (k+1)).map B=(List.range k).map B++[B k]:=λk=>by simp[List.range_succ]
 unfold vM;refine opE func8 ntmps8 results8 ?_;repeat'(first|refine' ag|refine ab p0 ?_)
 all_goals try exact ariA
 refine⟨bm (λ_ _ _=>lP 7 1 100 5 49 rfl rfl rfl rfl) (ae (ι:={j:Nat//j<=n.flows.length}) [1,2,4,7,26] [1,2] [] ⟨0,π _⟩ (λ⟨j,_⟩=>n.flows.length-j) (λ⟨j,_⟩=>[(27,J j)]) (λ⟨j,_⟩=>[(7,some (.box [a9 d,.osl 100 j])),(100,some (.arr j 5 (eget bL default ((List.range j).map B)) 49))]) ?_ ?_).good⟩
 ·refine⟨⟨rfl,rfl⟩,?_,?_⟩;all_goals((refine' subP)<;>first|exact q0b rfl (ν)|exact sq1)
 ·rintro⟨j,hj⟩;conv=>whnf
  by_cases hjl:(j:Int)<n.flows.length
  ·have p2:=p1 j ω;have hln:=hlen j;have hget:∀q,q<j+1->∀e,(q=j->e=bL (B j))->(bif Nat.blt q j then eget bL default ((List.range j).map B) q else e)=eget bL default ((List.range (j+1)).map B) q:=λq hq e he=>by
    rw[hsucc];exact bW bL default _ _ hln.symm q hq e he
   repeat'(first|(refine Λ hjl λhb=>?_;conv=>whnf)|(refine' aT [(100,48)] ⟨j+1,ω⟩<;>first|exact q0b rfl (λq hq=>hget q hq _ (λe=>by rw[e,Nat.sub_self];rfl))|exact sq1)|refine' ag|refine ab p2 ?_)
   all_goals try first|exact ariA|exact⟨ξ _,aW ω rfl⟩
  ·obtain rfl:j=n.flows.length:=ω;repeat'(first|(refine Υ hjl λhb=>?_;conv=>whnf)|refine' ag|fail)
   all_goals try exact ariA
   refine b7 [2,3] [2,100] [] [] [] ⟨⟨rfl,rfl⟩,?_,?_⟩ (bP 100 rfl rfl (λ_ _=>rfl) ?_ ?_ (cT ?_))
   ·skip;all_goals exact sq1
   ·skip;all_goals exact sq1
   ·all_goals try refine' frzZ
   ·all_goals try refine' frzZ
   ·conv=>whnf
    exact⟨(List.range n.flows.length).map B,AvLe.tup (.cons (AvLe.agg (.cons Ψ (.cons (Γ (hlen _).symm λi hi=>rfl) .nil))) (.cons Ψ .nil)),rfl⟩
theorem Ec(d:Xa)(b:Cand)(x m:Int)(ch:List Int)(ps:List Spl):q0d 17 [vM d [b,(⟨true,x,m,ch⟩,ps)],J 1] (.tup [J x,.bool true]):=by
 unfold vM;have hl:((([b,(⟨true,x,m,ch⟩,ps)]:List Cand).length:Nat):Int)=2:=rfl;refine opG func17 ntmps17 results17 λ_ _ _=>?_;repeat'(first|refine' aj|fail)
 all_goals first|exact Ψ|(exfalso;omega)|omega
theorem Ge:∃_:Unit,True/\q0c 16 [] [] (b5 10).av []:=by
 have p0:=q7 4 4 4 φ φ;refine opE func16 ntmps16 results16 ?_;repeat'(first|(refine am [] [0,1,2] [] [(0,.lptr 0 0),(1,.lptr 1 0),(2,.lptr 2 0),(3,.lptr 3 0)] [(3,some (.box (ringF ⟨#[103]⟩ (.osl 10 2)))),(10,some (.arr 2 1 (eget encI 0 [1,0]) 3))] ⟨⟨rfl,rfl⟩,?_,?_⟩ ?_;(solve|((refine' subP)<;>first|exact q0b rfl (lt2 rfl rfl)|exact sq1));(solve|((refine' subP)<;>first|exact q0b rfl (lt2 rfl rfl)|exact sq1));(conv=>whnf);(refine ax 10 rfl rfl (λ_ _=>rfl) ?_ ?_ ?_;(solve|try refine' frzZ);(solve|try refine' frzZ));(conv=>whnf))|(refine am [] [0] [] [(0,.lptr 0 0),(1,.lptr 1 0),(2,.lptr 2 0)] [(1,some (.box (Line.cells ⟨1,10,1,[],[]⟩))),(2,some (.box (ringF ⟨#[102]⟩ (.osl 5 2)))),(5,some (.arr 2 1 (eget encI 0 [0,1]) 3))] ⟨⟨rfl,rfl⟩,?_,?_⟩ ?_;(solve|((refine' subP)<;>first|exact q0b rfl (lt2 rfl rfl)|exact ObLe.box (.cons Ψ (.cons Ψ (.cons Ψ (.cons AvLe.nils (.cons AvLe.nils .nil)))))|exact sq1));(solve|((refine' subP)<;>first|exact q0b rfl (lt2 rfl rfl)|exact ObLe.box (.cons Ψ (.cons Ψ (.cons Ψ (.cons AvLe.nils (.cons AvLe.nils .nil)))))|exact sq1));(conv=>whnf);(refine ax 5 rfl rfl (λ_ _=>rfl) ?_ ?_ ?_;(solve|try refine' frzZ);(solve|try refine' frzZ));(conv=>whnf))|refine' ag|refine ab p0 ?_)
 refine b7 [0] [] [] [] [(0,some (.box [.osl 13 2,.osl 16 2,.osl 19 2])),(13,some (.arr 2 1 (eget encS .empty (b5 10).names) 9)),(16,some (.arr 2 5 (eget Line.cells default (b5 10).lines) 62)),(19,some (.arr 2 8 (eget Flow.cells default (b5 10).flows) 69))] ⟨⟨rfl,rfl⟩,?_,?_⟩ (bP 13 rfl rfl (λ_ _=>rfl) ?_ ?_ (bP 16 rfl rfl (λ_ _=>rfl) ?_ ?_ (bP 19 rfl rfl (λ_ _=>rfl) ?_ ?_ (cT ?_))))
 ·skip;all_goals((refine' subP)<;>first|exact q0b rfl (lt2 rfl rfl)|exact sq1)
 ·skip;all_goals exact sq1
 ·all_goals try refine' frzZ
 ·all_goals try refine' frzZ
 ·all_goals try refine' frzZ
 ·all_goals try refine' frzZ
 ·all_goals try refine' frzZ
 ·all_goals try refine' frzZ
 ·conv=>whnf
  exact⟨(),AvLe.agg (.cons (Γ rfl λi hi=>rfl) (.cons (Γ rfl λi hi=>rfl) (.cons (Γ rfl λi hi=>rfl) .nil))),trivial⟩
theorem vN:∃k:Nat,q0d 21 [(b5 10).av,J 60] (.tup [a9 [[0],[0]],J k,J 0]):=by
 obtain⟨x,hx,p⟩:=Ar (b5 10) (lw 10 φ) 60 φ φ;rw[show bh (b5 10)=λ_=>[[0],[0]]from funext mU]at hx;have hg:∀k,1<=k->¬jP (b5 10) (λ_=>[[0],[0]]) k:=λk hk hg=>(hg 1 φ hk).2 rfl;rcases x with _|⟨d,k⟩
 ·rcases hx with⟨k,h1,h2,h3,h4⟩|h
  ·exact absurd (oU (Int.le_refl 0) (Int.le_refl 0)) h4
  ·exact absurd h (hg 60 φ)
 ·obtain⟨_,_,rfl,_⟩:=hx;exact⟨k,p⟩
theorem Ed:fh (b5 10) [[0],[0]] = true:=bV.2 ⟨⟨⟨lw 10 φ,(lw 10 φ).names⟩,qZ 10 0 0 φ φ⟩,by
 rw[oT];exact⟨oU (Int.le_refl 0) (Int.le_refl 0),oU ⟨Int.le_refl 0,Int.le_refl 0⟩ ⟨Int.le_refl 0,Int.le_refl 0⟩⟩⟩
theorem sane38:∃b:Bool,b=true/\q0d 5 [] (.bool b):=by
 obtain⟨_,_,p0⟩:=Ge;have hc:=Ed;have hN2:(b5 10).lines.length<=2:=ξ 2;obtain⟨D,hD⟩:=G1 (b5 10) (lw 10 φ);obtain⟨k,pl⟩:=vN;obtain⟨L,eL,p1⟩:=HZ (b5 10) [[0],[0]] hc hN2 pl λi hi=>(hD i hi).1;have q0:=zd hc hN2 (i:=0) φ (hD 0 φ).2;have q1:=zd hc hN2 (i:=1) φ (hD 1 φ).2;obtain⟨b0,e0⟩:∃b,b=jI (b5 10) [[0],[0]] (refX (b5 10) [[0],[0]]) D 0:=⟨_,rfl⟩;obtain⟨b1,e1⟩:∃b,b=jI (b5 10) [[0],[0]] (refX (b5 10) [[0],[0]]) D 1:=⟨_,rfl⟩;have eL:L=[b0,b1]:=by rw[eL,e0,e1];rfl
 rw[<-e0]at q0;rw[<-e1]at q1;clear e0 e1;subst eL;obtain⟨⟨f0,v0,m0,c0⟩,s0⟩:=b0;obtain⟨⟨f1,v1,m1,c1⟩,s1⟩:=b1;obtain⟨rfl,g0,x0⟩:=q0;obtain⟨rfl,g1,x1⟩:=q1;dsimp only at g0 g1 x0 x1;have hD1:=λi (hi:i<(b5 10).flows.length)=>(hD i hi).1;have hX:tu (b5 10) [[0],[0]] D [(⟨true,v0,m0,c0⟩,s0),(⟨true,v1,m1,c1⟩,s1)] (λi=>if i=0 then v0 else v1):=lt2 ⟨rfl,x0⟩ ⟨rfl,x1⟩;have hY:tu (b5 10) [[0],[0]] D [(⟨true,v0-1,m0,c0⟩,s0),(⟨true,v1,m1,c1⟩,s1)] (λi=>if i=0 then v0 else v1):=lt2 ⟨rfl,x0⟩ ⟨rfl,x1⟩;obtain⟨r2,h2,p2⟩:=lE hc hN2 hD1 rfl hX;obtain rfl:r2=true:=h2.2 (lt2 (Int.le_refl v0) (Int.le_refl v1));obtain⟨r3,h3,p3⟩:=lE hc hN2 hD1 rfl hY;obtain rfl:r3=false:=by
  cases r3 with
  |false=>rfl
  |true=>
   have:v0<=v0-1:=h3.1 rfl 0 φ;omega
 have p4:=Ec [[0],[0]] (⟨true,v0,m0,c0⟩,s0) v1 m1 c1 s1;clear h2 h3 hX hY x0 x1;refine opE func5 ntmps5 results5 ?_;repeat'(first|(refine am [0,1,3,4] [1] [] [(5,.lptr 5 0)] [(5,some (.box [a9 [[0],[0]],.osl 34 2])),(34,some (.arr 2 5 (eget bL default [(⟨true,v0-1,m0,c0⟩,s0),(⟨true,v1,m1,c1⟩,s1)]) 49))] ⟨⟨rfl,rfl⟩,?_,?_⟩ ?_;(solve|((refine' subP)<;>first|exact q0b rfl (lt2 rfl rfl)|exact sq1));(solve|((refine' subP)<;>first|exact q0b rfl (lt2 rfl rfl)|exact sq1));(conv=>whnf);(refine ax 34 rfl rfl (λ_ _=>rfl) ?_ ?_ ?_;(solve|try refine' frzZ);(solve|try refine' frzZ));(conv=>whnf))|refine' ag|refine ab p0 ?_|refine ab p1 ?_|refine ab p2 ?_|refine ab p4 ?_|refine ab p3 ?_)
 all_goals first|exact(hb rfl).elim|exact ac ⟨true,rfl,rfl⟩|(unfold pQ;exact⟨.inl (φ:0+2<=1099511627776),lt2 rfl rfl⟩)|exact(⟨φ,φ⟩:(0:Int)<=1/\(1:Int)<2)|exact(⟨φ,φ⟩:(0:Int)<=0/\(0:Int)<2)|exact(by decide:0<2)|(show ah (v0-1);unfold ah;omega)
def clmC(E:Nat->Int)(mo:Int)(k:Nat):List Cand:=(List.range k).map λi=>(⟨true,E i+mo,1,[]⟩,[])
theorem i8(E:Nat->Int)(mo:Int)(k:Nat):(clmC E mo k).length=k:=by simp[clmC]
theorem iD(E:Nat->Int)(mo:Int){k i:Nat}(hi:i<k):(clmC E mo k).getD i default=(⟨true,E i+mo,1,[]⟩,[]):=by simp[clmC,hi]
def rawC(E:Nat->Int)(mo:Int)(q:Nat):List AV:=[.bool true,J (E q+mo),J 1,.nils,.nils]
theorem obArrC{n sz:Nat}{g g':Nat->List AV}{T:Nat}(h:∀i,i<n->AvsLe (g i) (g' i)):ObLe (.arr n sz g T) (.arr n sz g' T):=by
 refine⟨_root_.rfl,λρ Im H id hc=>?_⟩;cases hc with
 |arr0 _ _ _ h1=>exact .arr0 _ _ _ h1
 |arr _ _ _ _ b xs h1 h2 h3 h4 h5 h6 h7 h8=>
  refine .arr _ _ _ _ b xs h1 h2 h3 h4 h5 h6 (λi hi=>by rw[<-(h i hi).length];exact h7 i hi) λi j c x hi hj hx=>?_;obtain⟨u,hu,hle⟩:=(h i hi).get j c hj;exact hle.con _ _ _ _ (h8 i j u x hi hu hx)
theorem zi(E:Nat->Int)(mo:Int){M N q:Nat}(h1:q<N)(h2:q<M):bL ((clmC E mo N).getD q default)=bL ((clmC E mo M).getD q default):=by rw[iD E mo h1,iD E mo h2]
theorem Ia(E:Nat->Int)(mo:Int)(N T:Nat):ObLe (.arr N 5 (rawC E mo) T) (.arr N 5 (eget bL default (clmC E mo N)) T):=obArrC λq hq=>by
 unfold eget;rw[iD E mo hq];exact .cons Ψ (.cons Ψ (.cons Ψ (.cons AvLe.nils (.cons AvLe.nils .nil))))
theorem dK(n:Net){q:Nat}(hq:q<n.flows.length-1):Flow.cells (n.flows.getD q default)=Flow.cells ((dn n).flows.getD q default):=by rw[pH n hq]
theorem mF{n:Net}{d:Xa}{D:Nat->Curve->Except Int Dev}{E V:Nat->Int}{mo:Int}(h:∀i,i<n.flows.length->endX n d i=some (V i)):tu n d D (clmC E mo n.flows.length) V:=λi hi=>by
 rw[iD E mo hi];exact⟨rfl,.inl ⟨rfl,rfl,rfl,h i hi⟩⟩
theorem jJ(t:List Int)(mo:Int)(hmo:0<=mo/\mo<=255):∃b:Bool,b=true/\q0d 4 [ints t,.int .u8 mo] (.bool b):=by
 have o1:=new_ok t;have hN:=net_ok (Rd.new t) 2 3 ω ω ω ω;obtain⟨hw,h2⟩:=Cr (Rd.new t) 2 3 ω ω ω;obtain⟨n,s1,e1⟩:∃n s1,(Rd.new t).net 2 3=(n,s1):=⟨_,_,rfl⟩;have p1:=Ev _ o1 2 3 ω ω ω ω;rw[e1]at p1 hN hw h2;dsimp only at p1 hN hw h2;have h2:n.lines.length<=2:=h2;have hlen:=hN.len;have hfl:=hN.flen;obtain⟨_,rfl,psane⟩:=sane38;obtain⟨q,hx,p30⟩:=vI n hN hw 30 ω ω;rcases q with _|⟨d,k⟩
 ·have p30:q0d 13 [n.av,J 30] (.tup [.nils,J 0,J 5]):=p30;refine opE func4 ntmps4 results4 ?_;repeat'(first|refine' ag|refine ab psane ?_|(refine cO (xG t) rfl ?_;conv=>whnf)|refine bT p1 ?_|refine ab p30 ?_)
  all_goals try first|exact ariA|exact ac ⟨true,rfl,rfl⟩|(exfalso;omega)
 ·have p30:q0d 13 [n.av,J 30] (.tup [a9 d,J k,J 0]):=p30;obtain⟨hs,hfix,hp,hc⟩:=vL hN hx;have hf:Full n d:=(bV.1 hc).1;obtain⟨D,hD⟩:=G1 n hN;obtain ⟨E,hE⟩:∃ E:Nat -> Int,∀ i:Nat,i < n.flows.length -> endX n d i = some (E i):=⟨fun i=>(endX n d i).getD 0,fun i hi=>by
   obtain⟨⟨a,ha⟩,_⟩:=G3 hc hi;show endX n d i=some ((endX n d i).getD 0);rw[ha];rfl⟩
  have hEb:=λi hi=>Ea hf hi (hE i hi);obtain⟨b1,hb1,pc⟩:=lE hc h2 (λi hi=>(hD i hi).1) (i8 E mo n.flows.length) (mF (D:=D) (mo:=mo) hE);obtain rfl:b1=true:=hb1.2 λi hi=>by rw[iD E mo hi];dsimp only;omega
  clear hb1;have hm:=FY hN;have hml:=pG n;obtain⟨q2,hx2,p31⟩:=vI (dn n) hm hm.names 30 ω ω;have hs2:ShapeOk (dn n) d:=⟨hs.len,hs.row,hs.val⟩;have hf2:Full (dn n) d:=⟨⟨hm,hm.names⟩,hs2⟩;have p32:=Eb (dn n) d hf2;refine opE func4 ntmps4 results4 ?_;repeat'(first|refine' ag|refine ab psane ?_|(refine cO (xG t) rfl ?_;conv=>whnf)|refine bT p1 ?_|refine ab p30 ?_)
  all_goals try first|exact ariA|exact ac ⟨true,rfl,rfl⟩|(exfalso;omega)
  have pE:∀i:Nat,i<n.flows.length->q0d 14 [n.av,a9 d,J i] (.tup [J (E i),.bool true]):=λi hi=>by
   have p:=HU n d i;rw[hE i hi]at p;exact p
  refine⟨bm (λ_ _ _=>lP 9 1 100 5 49 rfl rfl rfl rfl) (ae (ι:={j:Nat//j<=n.flows.length}) [1,5,6,9,39] [5] [] ⟨0,π _⟩ (λ⟨j,_⟩=>n.flows.length-j) (λ⟨j,_⟩=>[(40,J j)]) (λ⟨j,_⟩=>[(9,some (.box [a9 d,.osl 100 j])),(100,some (.arr j 5 (rawC E mo) 49))]) ?_ ?_).good⟩
  ·refine⟨⟨rfl,rfl⟩,?_,?_⟩;all_goals((refine' subP)<;>first|exact q0b rfl (ν)|exact sq1)
  ·rintro⟨j,hj⟩;conv=>whnf
   by_cases hjl:(j:Int)<n.flows.length
   ·have p2:=pE j ω;have hb:=hEb j ω;have hget:∀q,q<j+1->∀e,(q=j->e=rawC E mo j)->(bif Nat.blt q j then rawC E mo q else e)=rawC E mo q:=λq hq e he=>by
     rcases ζ q j with g|g
     ·rw[Nat.blt_eq.mpr g];rfl
     ·obtain rfl:q=j:=ω;rw[show Nat.blt q q=false by cases hb:Nat.blt q q with |false=>rfl|true=>exact absurd (Nat.blt_eq.mp hb) (Nat.lt_irrefl _)];exact he rfl
    repeat'(first|(refine Λ hjl λhb=>?_;conv=>whnf)|(refine' aT [(100,61)] ⟨j+1,ω⟩<;>first|exact q0b rfl (λq hq=>hget q hq _ (λe=>by rw[e,Nat.sub_self];rfl))|exact sq1)|refine' ag|refine ab p2 ?_)
    all_goals try first|exact ariA|exact⟨ξ _,aW ω rfl⟩
   ·obtain rfl:j=n.flows.length:=ω;repeat(refine gvE ?_;conv=>whnf)
    refine aa (λhb=>absurd hb hjl) (λhb=>?_);conv=>whnf
    refine am [1,5,6,9] [5,9] [] [] [(100,some (.arr n.flows.length 5 (eget bL default (clmC E mo n.flows.length)) 49))] ⟨⟨rfl,rfl⟩,?_,?_⟩ ?_
    ·skip;all_goals((refine' subP)<;>first|(rw[Bn];exact Ia ..)|exact sq1)
    ·skip;all_goals exact sq1
    conv=>whnf
    refine ax 100 rfl rfl (λ_ _=>rfl) ?_ ?_ ?_
    ·all_goals try refine' frzZ
    ·all_goals try refine' frzZ
    conv=>whnf
    refine am [1,5,6,9] [5] [] [] [(9,some (.box [a9 d,slc 5 bL default (clmC E mo n.flows.length)]))] ⟨⟨rfl,rfl⟩,?_,?_⟩ ?_
    ·skip;all_goals((refine' subP)<;>first|exact ObLe.box (.cons Ψ (.cons (Γ (i8 ..).symm λq hq=>rfl) .nil))|exact sq1)
    ·skip;all_goals exact sq1
    conv=>whnf
    by_cases h0:(n.flows.length:Int)=0
    ·skip;repeat'(first|(refine Λ h0 λhb=>?_;conv=>whnf)|refine' ag|refine ab pc ?_|refine ab psane ?_)
     all_goals try first|exact ariA|exact ac ⟨true,rfl,rfl⟩|(exfalso;omega)
    ·obtain⟨N,eN⟩:∃N,N=n.flows.length:=⟨_,rfl⟩;have hDm:∀i,i<(dn n).flows.length->DelF ((dn n).flows.getD i default).con (D i):=λi hi=>by rw[pH n ω];exact(hD i ω).1
     rcases q2 with _|⟨x,k2⟩
     ·have p31:q0d 13 [(dn n).av,J 30] (.tup [.nils,J 0,J 5]):=p31;repeat'(first|(refine Υ h0 λhb=>?_;conv=>whnf)|(refine am [1,5,6,9] [5,9] [(913,13)] [(13,.lptr 913 0)] [(913,some (.box [slc 1 encS .empty n.names,slc 5 Line.cells default n.lines,slc 8 Flow.cells default (dn n).flows]))] ⟨⟨rfl,rfl⟩,?_,?_⟩ ?_;(solve|((refine' subP)<;>first|exact ObLe.box (.cons Ψ (.cons Ψ (.cons (Γ ω λq hq=>dK n ω) .nil)))|exact sq1));(solve|((refine' subP)<;>first|exact ObLe.box (.cons Ψ (.cons Ψ (.cons (Γ ω λq hq=>dK n ω) .nil)))|exact sq1));conv=>whnf)|refine' ag|refine ab pc ?_|refine ab psane ?_|refine ab p31 ?_)
      all_goals try first|exact ariA|exact ac ⟨true,rfl,rfl⟩|(exfalso;omega)
     ·have p31:q0d 13 [(dn n).av,J 30] (.tup [a9 x,J k2,J 0]):=p31;rcases hcm:fh (dn n) d with _|_<;>rw[hcm]at p32
      ·skip;repeat'(first|(refine Υ h0 λhb=>?_;conv=>whnf)|(refine am [1,5,6,9] [5,9] [(913,13)] [(13,.lptr 913 0)] [(913,some (.box [slc 1 encS .empty n.names,slc 5 Line.cells default n.lines,slc 8 Flow.cells default (dn n).flows]))] ⟨⟨rfl,rfl⟩,?_,?_⟩ ?_;(solve|((refine' subP)<;>first|exact ObLe.box (.cons Ψ (.cons Ψ (.cons (Γ ω λq hq=>dK n ω) .nil)))|exact sq1));(solve|((refine' subP)<;>first|exact ObLe.box (.cons Ψ (.cons Ψ (.cons (Γ ω λq hq=>dK n ω) .nil)))|exact sq1));conv=>whnf)|refine' ag|refine ab pc ?_|refine ab psane ?_|refine ab p31 ?_|refine ab p32 ?_)
       all_goals try first|exact ariA|exact ac ⟨true,rfl,rfl⟩|(exfalso;omega)
      ·obtain⟨b2,hb2,pL⟩:=lE hcm h2 hDm (i8 E mo (dn n).flows.length) (mF (D:=D) (mo:=mo) λi hi=>(zc hc hcm ω).trans (hE i ω));obtain rfl:b2=true:=hb2.2 λi hi=>by rw[iD E mo hi];dsimp only;omega
       obtain⟨hsx,hfx,hpx,hcx⟩:=vL hm hx2;have hle:DLe x d:=dle_of hsx.dim hs2.dim (xu hm hx2 hs2 (show DX (dn n) d fromλi c h1 h2=>AN hfix hp i c h1 h2) (bV.1 hcm).2);obtain ⟨X,hX⟩:∃ X:Nat -> Int,∀ i:Nat,i < (dn n).flows.length -> endX (dn n) x i = some (X i)/\X i <= E i:=⟨fun i=>(endX (dn n) x i).getD 0,fun i hi=>by
        obtain⟨a,b,ha,hb,hab⟩:=end_le hcx hcm hle hi;rw[zc hc hcm ω,hE i ω]at hb;cases hb;show endX (dn n) x i=some ((endX (dn n) x i).getD 0)/\(endX (dn n) x i).getD 0<=E i;rw[ha];exact⟨rfl,hab⟩⟩
       obtain⟨b3,hb3,pX⟩:=lE hcx h2 hDm (i8 E mo (dn n).flows.length) (mF (D:=D) (mo:=mo) λi hi=>(hX i hi).1);obtain rfl:b3=true:=hb3.2 λi hi=>by rw[iD E mo hi];have:=(hX i hi).2;dsimp only;omega
       have pC:=Gc (n:=dn n) (d:=d) (L:=clmC E mo n.flows.length) (by rw[i8];omega);have hcl:=i8 E mo n.flows.length;have hcl2:=i8 E mo (dn n).flows.length;clear hb2 hb3 hX hle hpx hfx;repeat'(first|(refine Υ h0 λhb=>?_;conv=>whnf)|(refine am [1,5,6,9] [5,9] [(913,13)] [(13,.lptr 913 0)] [(913,some (.box [slc 1 encS .empty n.names,slc 5 Line.cells default n.lines,slc 8 Flow.cells default (dn n).flows]))] ⟨⟨rfl,rfl⟩,?_,?_⟩ ?_;(solve|((refine' subP)<;>first|exact ObLe.box (.cons Ψ (.cons Ψ (.cons (Γ ω λq hq=>dK n ω) .nil)))|exact sq1));(solve|((refine' subP)<;>first|exact ObLe.box (.cons Ψ (.cons Ψ (.cons (Γ ω λq hq=>dK n ω) .nil)))|exact sq1));conv=>whnf)|(refine am [1,5,6,9,13,14] [5,9,913] [(917,17)] [(17,.lptr 917 0)] [(917,some (.box [a9 d,slc 5 bL default (clmC E mo (dn n).flows.length)]))] ⟨⟨rfl,rfl⟩,?_,?_⟩ ?_;(solve|((refine' subP)<;>first|exact ObLe.box (.cons Ψ (.cons (Γ ω λq hq=>zi E mo ω ω) .nil))|exact sq1));(solve|((refine' subP)<;>first|exact ObLe.box (.cons Ψ (.cons (Γ ω λq hq=>zi E mo ω ω) .nil))|exact sq1));conv=>whnf)|refine' ag|refine ab pc ?_|refine ab psane ?_|refine ab p31 ?_|refine ab p32 ?_|refine ab pL ?_|refine ab pX ?_|refine ab pC ?_)
       all_goals try first|exact ariA|exact ac ⟨true,rfl,rfl⟩|(exfalso;omega)
end Go.Nc