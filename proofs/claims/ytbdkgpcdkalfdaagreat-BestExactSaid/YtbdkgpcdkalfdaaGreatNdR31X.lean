/- Parts. -/
import Derived.Test.YtbdkgpcdkalfdaaGreatNdR8A
import Derived.Test.YtbdkgpcdkalfdaaGreatNdBLA
namespace Go.Nc
open Go.Proofs.Tryz
open Go.Proofs
set_option maxHeartbeats 8000000
theorem JC:∃x,x=(.ok (au 0):Except Int Curve)/\q0e 127 [cInf.av,J 0] (ax x):=by
 have q:=n7 cInf η η 0 η rfl (λt d=>Z);have q:q0e 96 [cInf.av] cInf.av:=q;obtain⟨b,hb,Q⟩:=cV cInf;obtain rfl:b=true:=hb.trans qK;have k:q0e 177 [cInf.av] (ax (.ok cInf)):=by
  refine' db func177 ntmps177 results177
  all_goals exact Θ
 have P:=λ(j:Nat) (o:j<=3)=>c6 cInf Aq j Z;have d:∀j:Nat,1<=j->j<=3->cInf.fn j=wF 0 j:=λj m n=>by
  rcases(Z:j=1\/j=2\/j=3)with rfl|rfl|rfl<;>decide
 have p:=Fq 0 3 η η;rw[if_pos η]at p;replace p:=p.le1 cz;obtain⟨c,e⟩:∃c,c=cInf:=⟨_,rfl⟩;have r:c.vals.length=1:=by rw[e];rfl
 have g:c.per=1:=by rw[e];rfl
 have h:c.inc=0:=by rw[e];rfl
 rw[<-e]at k P d⊢;refine dp func127 ntmps127 results127 ?_;repeat'(first|refine' aj|fail)
 all_goals try exact ariB
 refine ae (ι:={j:Nat//1<=j/\j<=3}) [1,4,6,8] [4,6] [(100,30)] ⟨1,Z⟩ (λ⟨j,_⟩=>3-j) (λ⟨j,_⟩=>[(9,J j)]) (λ⟨j,_⟩=>[(8,some (.box [.osl 100 j,J 1,J 0])),(100,some (.arr j 1 (λi=>[J (wF 0 i)]) 3))]) ?_ ?_
 .refine⟨⟨rfl,rfl⟩,?_,?_⟩;all_goals((refine' subP)<;>first|exact fl rfl (bV rfl)|exact ObLe.box (.cons Θ (.cons (Γ g) (.cons (Γ h) .nil)))|exact bt)
 .rintro⟨j,H,f⟩;conv=>whnf
  by_cases a:j=3
  .subst a;repeat'(first|(refine az [1,4,6,8,9] [4,6] [] [] [(8,some (.box [.osl 100 3,J 1,J 0])),(100,some (.arr 3 1 (λi=>[J (wF 0 i)]) 3))] ⟨⟨rfl,rfl⟩,bt,bt⟩ ?_;(conv=>whnf);(refine a7 100 rfl rfl (λ_ _=>rfl) ?_ ?_ ?_;(solve|try refine' frzZ);(solve|try refine' frzZ));(conv=>whnf))|refine' aj|fail)
   all_goals try exact ariB
   exact ag ⟨.ok (au 0),rfl,rfl⟩
  .have l:=P j Z;rw[d j H Z,<-Int.add_zero (j:Int)]at l;repeat'(first|(refine' aO [(100,51)] ⟨j+1,Z⟩<;>first|exact fl rfl λi h=>cr (G:=wF 0) (X:=λi=>List.take ti3.size (List.drop (i*ti3.size) (mg (0*ti3.size) (J (wF 0 j)).cellsL (f0 1 ti3.zero)))) rfl h|exact bt)|refine' aj|fail)
   all_goals try first|omega|(exfalso;omega)|exact ε|exact⟨π _,aL Z rfl⟩
theorem OG(z:Curve)(h:z=cInf\/NrmC z):q0e 127 [z.av,J 0] (ax (xy z)):=by
 rcases h with rfl|h
 .rw[show xy cInf=.ok (au 0)from if_pos rfl];obtain⟨_,rfl,p⟩:=JC;exact p
 .obtain⟨x,⟨_,H⟩,p⟩:=nH z (a6.wf (.inl h)) h.gd.2 0 η;have e:x=xy z:=by
   unfold xy;rw[if_neg (E7 h)];exact(H h.gd).eq
  rw[<-e];exact p
theorem n8(n:Net)(d:Xa)(h:NetOk n)(l:NamesOk n)(j:ShapeOk n d)(i:Nat)(g:i<n.flows.length):∀k:Nat,k<(n.flows.getD i default).route.length->
  q0e 77 [n.av,aF d,J i,J k] (ax (nm n d i k))
 |0,hk=>by
  have t:=lV n d h l j i 0 g hk;show CallSpec _ _ _ _ (ax (hU (n.flows.getD i default) (cA d (n.flows.getD i default) 0))) [];rcases hx:hU (n.flows.getD i default) (cA d (n.flows.getD i default) 0)with e|a;all_goals
   rw[hx]at t;refine' db func77 ntmps77 results77
   all_goals first|exact Θ|omega|(exfalso;omega)
 |k+1, hk => by
  have r:=h.flow (n.flows.getD i default) (by simp[g]);have D:=r.ne;have F:=r.sizes;have C:=h.flen;have t:=lV n d h l j i (k+1) g hk;have u:=n8 n d h l j i g k Z;have p:=sI n d h l j i k g Z 1 ε;have E:((k+1:Nat):Int)-1=(k:Nat):=Z;have H:¬((k+1:Nat):Int)=0:=Z;rw[<-E]at u p;unfold nm kz;rcases hx:hU (n.flows.getD i default) (cA d (n.flows.getD i default) (k+1))with e|a
  .have f:e≠0:=by
    have q:=(hZ n d h j i (k+1) g hk).1;rw[hx]at q;rcases q with q|q<;>omega
   rw[hx]at t;clear u p;refine' db func77 ntmps77 results77
   all_goals first|exact absurd ‹_› f|exact Θ|omega|(exfalso;omega)
  .have x := oB h j g hk hx;rw[hx]at t;dsimp only;rcases hb:nm n d i k with e|A
   .have f:=bn (sW h j g Z hb);rw[hb]at u;have v:=p;have s:=p;have o:=p;have P:=p;refine' db func77 ntmps77 results77
    all_goals first|exact absurd ‹_› H|exact absurd ‹_› f|exact Θ|exact bs
   .have Q := kR h l j g Z hb;rw[hb]at u;dsimp only;rcases hc:bq n d i k 1 with e|b
    .have f:=mr h l j g Z hc;rw[hc]at p;have v:=p;have s:=p;have o:=p;have P:=p;refine' db func77 ntmps77 results77
     all_goals first|exact absurd ‹_› H|exact absurd ‹_› f|exact Θ|exact bs
    .have w := kT h l j g Z hc;have v:=Fs b (.inl w) (n.flows.getD i default).most Z;rw[hc]at p;dsimp only;rcases hh:n4 b ((n.flows.getD i default).most-1)with e|c
     .have f:e≠0:=by rw[nr (.inl w) hh];decide
      rw[hh]at v;have s:=p;have o:=p;have P:=p;refine' db func77 ntmps77 results77
      all_goals first|exact absurd ‹_› H|exact absurd ‹_› f|exact Θ|exact bs
     .have B:=OQ w hh;have s:=Pt A c Q.1 B.1 B.2;rw[hh]at v;unfold KC;dsimp only;rcases hx2:decX A c with e|z
      .have f:e≠0:=by rw[yB hx2];decide
       rw[hx2]at s;have o:=p;have P:=p;refine' db func77 ntmps77 results77
       all_goals first|exact absurd ‹_› H|exact absurd ‹_› f|exact Θ|exact bs
      .have o:=OG z (uF Q.1 hx2);rw[hx2]at s;dsimp only;rcases hx3:xy z with e|y
       .have f:e≠0:=by rw[EA hx3];decide
        rw[hx3]at o;have P:=p;refine' db func77 ntmps77 results77
        all_goals first|exact absurd ‹_› H|exact absurd ‹_› f|exact Θ|exact bs
       .have P:=OF a y x.1 x.2 ((E9 (uF Q.1 hx2) hx3).imp id And.left);rw[hx3]at o;dsimp only;have f:(3:Int)≠0:=η;rcases hm:mu a y with e|m
        .obtain rfl:=EB hm;rw[hm]at P;refine' db func77 ntmps77 results77
         all_goals first|exact absurd ‹_› H|exact absurd ‹_› f|exact Θ|exact bs
        .rw[hm]at P;refine' db func77 ntmps77 results77
         all_goals first|exact absurd ‹_› H|exact absurd ‹_› f|exact Θ|exact bs
theorem JD{s c:Curve}(G:Gd s)(g:Gd c):q0e 140 [s.av,c.av] (ax (y1 s c)):=by
 obtain⟨b,z,_⟩:=cY g;obtain⟨a,S,_⟩:=cY G;obtain⟨y,⟨_,h⟩,p⟩:=jP s c a S b z;rw[h.eq G g,<-yl G g]at p;exact p
theorem JE{x y:Except Int eK}(h:Kj x=Kj y)(v:Int):ru x v=ru y v:=by
 rcases x with e|⟨i,a,b⟩<;>rcases y with f|⟨j,A,B⟩
 .rfl
 .cases h
 .cases h
 .rcases i with _|_<;>rcases j with _|_
  .cases h;rfl
  .cases h
  .cases h
  .rfl
theorem MP(n:Net)(d:Xa)(h:NetOk n)(hw:NamesOk n)(N:ShapeOk n d)(L:Nat)(hL:L<n.lines.length)(k:Nat)(hk:(k:Int)<(n.lines.getD L default).classes):∃v,v=dO n d L k/\q0e 74 [n.av,aF d,J L,J k] (J v):=by
 have hfl:=h.flen;have hll:=h.len;have hdl:=N.len;have hrow:=N.row L hL;have y:=h.line (n.lines.getD L default) (by rw[γ,υ hL];exact List.getElem_mem _);have hcl:=y.cls;have hcap:=y.cap;obtain⟨C,eC⟩:=ζ (Z:0<=(n.lines.getD L default).classes);have p0:=c5 n L k Z (cZ h);have a:((d.getD (L:Int).toNat []).length:Int)=(n.lines.getD L default).classes:=hrow;have b:=@At n d L k;have o:=@ER n d L k;have A:=@As n d L k;obtain⟨w,ew⟩:∃w,w=(d.getD L []).getD k 0:=⟨_,rfl⟩;have E:(d.getD (L:Int).toNat []).getD (k:Int).toNat 0=w:=ew.symm;rw[<-ew]at b o;obtain⟨B,eB⟩:∃B,B=dO n d L k:=⟨_,rfl⟩;rw[<-eB]at b o A⊢;by_cases X:a8 n L k=[]
 .have hm0:((a8 n L k).length:Int)=0:=by rw[X];rfl
  refine dp func74 ntmps74 results74 ?_;repeat'(first|refine' aj|fail)
  all_goals first|exact bs|exact ag ⟨0,rfl,A X⟩|(exfalso;omega)
 .have hm0:¬((a8 n L k).length:Int)=0:=λe=>X (List.eq_nil_of_length_eq_zero Z);have b:=λe t=>b X (e:=e) t;have o:=λcs t=>o X (cs:=cs) t;rw[eC,β]at b o;obtain⟨sz,esz,ps⟩:=qr n h hw L ⟨Z,Z⟩;have G:sz=dC n L:=by rw[esz,qd h ⟨Z,Z⟩]
  have pz:=mT;refine dp func74 ntmps74 results74 ?_;repeat'(first|refine' aj|fail)
  all_goals try exact ariB
  refine⟨aV (λ_ _ _=>bQ 9 100 3 45 rfl rfl rfl) (ae (ι:={p:Nat×List Curve//p.1<=C/\p.2.length=p.1/\i7 n d L p.1=.ok p.2}) [1,2,3,4] [4] [] ⟨(0,[]),χ _,rfl,rfl⟩ (λ⟨(j,_),_⟩=>C-j) (λ⟨(j,l),_⟩=>[(9,.osl 100 l.length),(10,J j)]) (λ⟨(_,l),_⟩=>[(100,some (.arr l.length 3 (ey Curve.cells c0 l) 45))]) ?_ ?_).good⟩
  .refine⟨⟨rfl,rfl⟩,?_,?_⟩;all_goals((refine' subP)<;>first|exact fl rfl (ψ)|exact bt)
  .rintro⟨⟨j,l⟩,hj,hln,S⟩;dsimp only at hj hln S;conv=>whnf
   by_cases r:(j:Int)<(n.lines.getD (L:Int).toNat default).classes
   .have hjC:j<C:=by rw[show(n.lines.getD (L:Int).toNat default).classes=C from eC]at r;omega
    have p1:=c5 n L j Z (cZ h);have hml:=da n L j;have O:=sX n d L j;rw[S]at O;dsimp only at O;obtain⟨V,eV⟩:∃V,V=a8 n L j:=⟨_,rfl⟩;have hmem:∀k,k<V.length->∃f:Nat,V.getD k 0=(f:Int)/\f<n.flows.length/\0<=bG L (n.flows.getD f default).route 0:=λk hk=>by
     obtain⟨⟨h1,h2,h3⟩,_⟩:=cD (eV▸a9 hk);obtain⟨f,P⟩:=ζ h1;rw[P]at h2 h3;exact⟨f,by rw[eV];exact P,Z,by rw[β]at h3;exact h3⟩
    rw[<-eV]at p1 hml;obtain⟨R,eR⟩:∃R,R=dk (kS n d L) (ao 0) V:=⟨_,rfl⟩;have eBc:Kn n d L j=R:=by rw[eR,eV];rfl
    rw[eBc]at O;have I:∀e,R=.error e->w=B:=λe t=>by
     rw[t]at O;have:=mq (m:=C-(j+1)) O;rw[(Z:j+1+(C-(j+1))=C)]at this;exact b _ this
    repeat'(first|(refine U r λhb=>?_;conv=>whnf)|refine' aj|fail)
    all_goals try exact ariB
    refine ae (ι:={p:Nat×Curve//p.1<=V.length/\dk (kS n d L) p.2 (V.drop p.1)=R/\Gd p.2}) [1,2,3,4,9,10,12] [4,100] [] ⟨(0,ao 0),χ _,eR.symm,aR η⟩ (λ⟨(k,_),_⟩=>V.length-k) (λ⟨(k,_),_⟩=>[(11,.lptr 11 0),(13,J k)]) (λ⟨(_,s),_⟩=>[(11,some (.box s.cells))]) ?_ ?_
    .exact⟨⟨rfl,rfl⟩,bt,bt⟩
    .rintro⟨⟨q,s⟩,hq,H,gs⟩;conv=>whnf
     dsimp only at hq H gs;by_cases F:(q:Int)<V.length
     .obtain⟨f,P,Q,hH⟩:=hmem q Z;have ef2:V.getD (q:Int).toNat 0=f:=P;have hfo:FlowOk n.lines (n.flows.getD f default):=h.flow _ (by simp[Q]);have hne:=hfo.ne;have hlt:=dI (x:=(L:Int)) (l:=(n.flows.getD f default).route) (Int.le_refl 0);obtain⟨m,em⟩:=ζ hH;have p2:=nX n f L Q Z Z;have p3:=n8 n d h hw N f Q m Z;rw[em]at p2;have eS:kS n d L s f=match nm n d f m with |.error e=>.error e|.ok c=>y1 s c:=by
       unfold kS;rw[β,em,β];first|done|(rcases nm n d f m<;>rfl)
      rw[bS (l:=V) (j:=q) Z,P]at H;unfold dk at H;rw[eS]at H;rw[<-ef2]at p2 p3;rcases hb:nm n d f m with e|c
      .have t:=bn (sW h N Q Z hb);rw[hb]at H p3;have H:Except.error e=R:=H;repeat'(first|(refine U F λhb=>?_;conv=>whnf)|refine' aj|fail)
       all_goals try first|exact bs|(exfalso;omega)|exact absurd ‹_› t|exact ag ⟨_,rfl,E.trans (I e H.symm)⟩|(rw[a];omega)
      .have gc:=(kR h hw N Q Z hb).1.gd;rw[hb]at H p3;have p4:=JD gs gc;dsimp only at H;rcases hs:y1 s c with e|z
       .have q4:=sx s c;rw[hs]at q4 H p4;have t:=bn (lO q4);have H:Except.error e=R:=H;repeat'(first|(refine U F λhb=>?_;conv=>whnf)|refine' aj|fail)
        all_goals try first|exact bs|(exfalso;omega)|exact absurd ‹_› t|exact ag ⟨_,rfl,E.trans (I e H.symm)⟩|(rw[a];omega)
       .have hE:SumE s c (.ok z):=hs▸sy s c;have gz:=(hE.gd gs gc).1;rw[hs]at H p4;repeat'(first|(refine U F λhb=>?_;conv=>whnf)|(exact aI [] ⟨(q+1,z),κ,H,gz⟩)|refine' aj|fail)
        all_goals try exact ariB
     .rw[List.drop_eq_nil_of_le Z]at H;have H:Except.ok s=R:=H;rw[<-H]at O;have hsz:(l++[s]).length=l.length+1:=by simp
      repeat'(first|(refine M F λhb=>?_;conv=>whnf)|refine' aj|fail)
      all_goals try first|exact bs|exact⟨π _,aL Z rfl⟩
      refine aQ [(100,89)] ⟨(j+1,l++[s]),κ,κ,O⟩ ⟨⟨rfl,rfl⟩,?_,?_⟩ κ
      .skip;all_goals((refine' subP)<;>first|exact fl hsz.symm λi hi=>b9 Curve.cells c0 l s rfl i hi _ (λe=>by subst e;simp;rfl)|exact bt)
      .skip;all_goals((refine' subP)<;>first|exact Ξ (congrArg (AV.osl 89) hsz.symm)|exact bt)
   .have hjC:¬(j:Int)<C:=by rw[<-eC];exact r
    obtain rfl:j=C:=Z;have hg:GdAll l:=⟨λi hi=>(EL h hw N).1 _ ((oC S).2 i Z)⟩;obtain⟨q1,q2⟩:=yC h hw N hL hk (cs:=l) (by rw[eC];exact S);have q3:=(jR q1 q2).1.2.2 hg.gd;rw[<-G]at q1 q3;obtain⟨D,hD,p4⟩:=qq (n.lines.getD L default) k l sz q1 hg;have K:=hD.same Z q3;have H:=o l S;rw[<-G,<-JE K w]at H;have hfr:AvLe (.isl l.length 3 (ey Curve.cells c0 l)) (slc 3 Curve.cells c0 l):=kd rfl λi hi=>rfl;refine a7 100 rfl rfl (λ_ _=>rfl) ?_ ?_ ?_
    .all_goals try refine' frzZ
    .all_goals try refine' frzZ
    conv=>whnf
    have W:∀e,D=.error e->e≠0:=λe t=>(t▸hD).low;rcases D with e|⟨i,v,u⟩
    .have t:=W e rfl;have H:w=B:=H;repeat'(first|(refine M r λhb=>?_;conv=>whnf)|refine' aj|fail)
     all_goals try first|exact bs|exact absurd ‹_› t|exact ag ⟨_,rfl,E.trans H⟩|(rw[a];omega)
    .rcases i with _|_
     .have H:(if v<w then v else w)=B:=H;by_cases g:v>w
      .rw[if_neg Z]at H;repeat'(first|(refine M r λhb=>?_;conv=>whnf)|refine' aj|fail)
       all_goals try first|exact bs|exact ag ⟨_,rfl,E.trans H⟩|(rw[a];omega)|(exfalso;dsimp only at *;omega)
      .have H:v=B:=by rw[<-H];split<;>omega
       repeat'(first|(refine M r λhb=>?_;conv=>whnf)|refine' aj|fail)
       all_goals try first|exact bs|exact ag ⟨_,rfl,H⟩|(rw[a];omega)|(exfalso;dsimp only at *;omega)
     .have H:w=B:=H;repeat'(first|(refine M r λhb=>?_;conv=>whnf)|refine' aj|fail)
      all_goals try first|exact bs|exact ag ⟨_,rfl,E.trans H⟩|(rw[a];omega)
theorem JF(n:Net)(d:Xa)(h:NetOk n)(c:NamesOk n)(a:ShapeOk n d)(L:Nat)(H:L<n.lines.length)(k:Nat)(b:(k:Int)<(n.lines.getD L default).classes):q0e 74 [n.av,aF d,J L,J k] (J (dO n d L k)):=by
 obtain⟨_,rfl,p⟩:=MP n d h c a L H k b;exact p
theorem tf(n:Net)(d:Xa)(k:f7 n d=true):∃x,x=fc n d/\q0e 36 [n.av,aF d] (K5 (.ok x)):=by
 have m:=(cg.1 k).1;obtain⟨⟨h,u⟩,s⟩:=id m;have P:=iA n d m;rw[k]at P;have o:=h.len;obtain⟨F,l⟩:∃F,F=dO n d:=⟨_,rfl⟩;refine dp func36 ntmps36 results36 ?_;repeat'(first|refine' aj|fail)
 all_goals try first|omega
 refine⟨aV (λ_ _ _=>bQ 6 100 1 22 rfl rfl rfl) (ae (ι:={j:Nat//j<=n.lines.length}) [1,2] [2] [] ⟨0,χ _⟩ (λ⟨j,_⟩=>n.lines.length-j) (λ⟨j,_⟩=>[(6,.osl 100 j),(7,J j)]) (λ⟨j,_⟩=>[(100,some (.arr j 1 (λi=>cJ (ff n F i)) 22))]) ?_ ?_).good⟩
 .refine⟨⟨rfl,rfl⟩,?_,?_⟩;all_goals((refine' subP)<;>first|exact fl rfl (ψ)|exact bt)
 .rintro⟨j,y⟩;conv=>whnf
  by_cases e:(j:Int)<n.lines.length
  .have hcl:=(h.line (n.lines.getD j default) (by rw[γ,υ Z];exact List.getElem_mem _)).cls;obtain⟨C,E⟩:=ζ (Z:0<=(n.lines.getD j default).classes);have p:(n.lines.getD (j:Int).toNat default).classes=(C:Int):=E;have t:(ff n F j).length=C:=by rw[iK,E];rfl
   repeat'(first|(refine U e λhb=>?_;conv=>whnf)|refine' aj|fail)
   all_goals try exact ariB
   refine⟨aV (λ_ _ _=>bQ 8 101 1 3 rfl rfl rfl) (ae (ι:={c:Nat//c<=C}) [1,2,6,7] [2,100] [] ⟨0,χ _⟩ (λ⟨c,_⟩=>C-c) (λ⟨c,_⟩=>[(8,.osl 101 c),(9,J c)]) (λ⟨c,_⟩=>[(101,some (.arr c 1 (λi=>[J (F j i)]) 3))]) ?_ ?_).good⟩
   .refine⟨⟨rfl,rfl⟩,?_,?_⟩;all_goals((refine' subP)<;>first|exact fl rfl (ψ)|exact bt)
   .rintro⟨c,k⟩;conv=>whnf
    by_cases a:(c:Int)<(n.lines.getD (j:Int).toNat default).classes
    .have v:=JF n d h u s j Z c Z;have r:F j c=dO n d j c:=by rw[l]
     rw[<-r]at v;repeat'(first|(refine' aO [(101,38)] ⟨c+1,Z⟩<;>first|exact fl rfl λi H=>cr (G:=F j) (X:=λi=>List.take ti3.size (List.drop (i*ti3.size) (mg (0*ti3.size) (J (F j c)).cellsL (f0 1 ti3.zero)))) rfl H|exact bt)|(refine U a λhb=>?_;conv=>whnf)|refine' aj|fail)
     all_goals first|omega|(exfalso;omega)|exact ε|exact⟨π _,aL Z rfl⟩|exact aL Z rfl
    .have w:c=C:=Z;have g:∀i,i<c->F j i=(ff n F j).getD i 0:=λi H=>(lR n F (by rw[<-iK n F];omega)).symm;have b:c=(ff n F j).length:=Z;repeat(refine fg ?_;conv=>whnf)
     refine Side.mk ⟨Z,Z⟩ ?_;conv=>whnf
     repeat(refine fg ?_;conv=>whnf)
     refine aa (λhb=>absurd hb a) (λhb=>?_);conv=>whnf
     refine az [1,2,6,7] [2,100] [] [(8,.osl 101 (ff n F j).length)] [(101,some (.arr (ff n F j).length 1 (λi=>[J ((ff n F j).getD i 0)]) 3))] ⟨⟨rfl,rfl⟩,?_,?_⟩ ?_
     .skip;all_goals((refine' subP)<;>first|exact fl b (λi H=>(show[J (F j i)]=[J ((ff n F j).getD i 0)]from by rw[g i H]).trans (ia _).symm)|exact bt)
     .skip;all_goals((refine' subP)<;>first|exact Ξ (congrArg (AV.osl 101) b)|exact bt)
     conv=>whnf
     refine a7 101 rfl rfl (λ_ _=>rfl) ?_ ?_ ?_
     .try refine' frzZ
     .refine⟨λi H=>⟨trivial,trivial⟩,?_,λi H=>⟨trivial,trivial⟩,trivial⟩;try refine' frzZ
     conv=>whnf
     repeat'(first|refine' aj|fail)
     all_goals try first|exact bs|exact⟨Z,Z⟩|exact⟨π _,aL Z rfl⟩
     refine aQ [(100,42)] ⟨j+1,Z⟩ ⟨⟨rfl,rfl⟩,?_,?_⟩ κ
     .skip;all_goals((refine' subP)<;>first|exact fl rfl λi H=>oy (f:=λi=>cJ (ff n F i)) (X:=λi=>List.take ti22.size (List.drop (i*ti22.size) (mg (0*ti22.size) (c4 (ff n F j)).cellsL (f0 1 ti22.zero)))) rfl H|exact bt)
     .skip;all_goals exact bt
  .have q:j=n.lines.length:=Z;subst q;repeat'(first|(refine M e λhb=>?_;conv=>whnf)|refine' aj|fail)
   all_goals try exact ariB
   refine aW [4,5] [] [] [] [(100,some (.arr n.lines.length 1 (λi=>cJ ((fc n d).getD i [])) 22))] ⟨⟨rfl,rfl⟩,?_,?_⟩ (aX 100 rfl rfl (λ_ _=>rfl) ?_ ?_ (bO ?_))
   .skip;all_goals((refine' subP)<;>first|exact fl rfl λi H=>congrArg cJ (by rw[l];exact(gF n (dO n d) H).symm)|exact bt)
   .skip;all_goals exact bt
   .all_goals try refine' frzZ
   .all_goals try refine' frzZ
   .conv=>whnf
    exact⟨fc n d,AvLe.tup (.cons (kd (iz n (dO n d)).symm λi H=>rfl) (.cons Θ .nil)),rfl⟩
noncomputable def B0(n:Net)(d:Xa)(i:Nat)(R:Curve->Except Int eK)(c:eh)(ch:List Int):eh:=match y6 (gL n d i ch) R with
 |.ok x=>dg c ⟨true,x.1,2,ch⟩ x.2
 |.error _=>c
theorem A2{n:Net}{d:Xa}{i:Nat}{R:Curve->Except Int eK}{c:eh}{ch:List Int}(h:∀x,gL n d i ch≠.ok x):B0 n d i R c ch=c:=by
 unfold B0 y6;rcases hp:gL n d i ch with e|x
 .rfl
 .exact absurd hp (h x)
theorem Ib{n:Net}{d:Xa}{i:Nat}{R:Curve->Except Int eK}{c:eh}{ch:List Int}{z:Curve}{ps:List Spl}(h:gL n d i ch=.ok (z,ps)):tryX R c (ch,z,ps)=B0 n d i R c ch:=by
 unfold B0 y6 tryX;rw[h];dsimp only;rcases dS (R z)with e|v<;>rfl
def KQ(r:Nat)(o O:Int):List Int:=if r=1 then[o]else[o,O]
abbrev NB:=eh->Int->Int->eh
def J9(g:NB)(l0 l:List Int)(c:eh):eh:=l0.foldl (λc o=>l.foldl (λc O=>g c o O) c) c
def CH(g:NB)(l0 l:List Int)(x0 x:Nat)(c:eh):eh:=J9 g (l0.drop (x0+1)) l ((l.drop x).foldl (λc o=>g c (l0.getD x0 0) o) c)
theorem BV(g:NB){l0 L:List Int}(h:0<l0.length)(c:eh):CH g l0 L 0 0 c=J9 g l0 L c:=by
 unfold CH J9;conv=>rhs;rw[show l0=l0.drop 0 from rfl,bS (l:=l0) (j:=0) h]
 rfl
theorem JG(g:NB){l0 L:List Int}{x0 x:Nat}(h:x<L.length)(c:eh):CH g l0 L x0 x c=CH g l0 L x0 (x+1) (g c (l0.getD x0 0) (L.getD x 0)):=by
 unfold CH;rw[bS (l:=L) (j:=x) h];rfl
theorem tg(g:NB){l0 L:List Int}{x0 x:Nat}(h:x=L.length)(c:eh):CH g l0 L x0 x c=if x0+1<l0.length then CH g l0 L (x0+1) 0 c else c:=by
 have e:CH g l0 L x0 x c=J9 g (l0.drop (x0+1)) L c:=by
  unfold CH;rw[h,List.drop_length];rfl
 rw[e];split
 .rename_i H;rw[bS (l:=l0) (j:=x0+1) H];rfl
 .rw[List.drop_eq_nil_of_le Z];rfl
theorem Hz{n:Net}{d:Xa}{i:Nat}{R:Curve->Except Int eK}{l:List Int}(a:dd n d i 0=.ok l)(c:eh):eA n d i R 1 [] c0 [] c=J9 (λc o O=>B0 n d i R c (KQ 1 o O)) l [0] c:=by
 unfold eA J9;rw[dh (r:=0) (ch:=[]) a,List.foldl_flatMap];congr 1;funext c o;show _=B0 n d i R c [o];have H:=j8 (n:=n) (d:=d) (i:=i) (last:=true) (z:=c0) (ps:=[]) (o:=o);have H:gI n d i ([]:List Int).length (0==0) c0 [] o=_:=H;rw[H];rcases hx:ko n d i 0 true o with e|y
 .exact(A2 λ⟨z,ps⟩ h=>by rw[((mv o z ps).1 h).1]at hx;cases hx).symm
 .exact Ib ((mv o y []).2 ⟨hx,rfl⟩)
theorem HA{n:Net}{d:Xa}{i:Nat}{R:Curve->Except Int eK}{l m:List Int}(s:dd n d i 0=.ok l)(t:dd n d i 1=.ok m)(c:eh):eA n d i R 2 [] c0 [] c=J9 (λc o O=>B0 n d i R c (KQ 2 o O)) l m c:=by
 unfold eA J9;rw[dh (r:=1) (ch:=[]) s,List.foldl_flatMap];congr 1;funext c o;have a:=j8 (n:=n) (d:=d) (i:=i) (last:=false) (z:=c0) (ps:=[]) (o:=o);have a:gI n d i ([]:List Int).length (1==0) c0 [] o=_:=a;rw[a];rcases hx:ko n d i 0 false o with e|y
 .have key:∀(m:List Int) (c:eh),m.foldl (λc O=>B0 n d i R c (KQ 2 o O)) c=c:=λm=>by
   induction m with
   |nil=>intro c;rfl
   |cons O m ih=>
    intro c;show m.foldl _ (B0 n d i R c [o,O])=c;rw[A2 λ⟨z,ps⟩ h=>by obtain⟨y,b,_⟩:=(i9 o O z ps).1 h;rw[b]at hx;cases hx];exact ih c
  exact(key m c).symm
 .show(pf n d i 1 ([]++[o]) y []).foldl (tryX R) c=_;have q:([]++[o]:List Int).length=1:=rfl;rw[dh (r:=0) (ch:=[]++[o]) (by rw[q];exact t),List.foldl_flatMap,q];congr 1;funext c O;show _=B0 n d i R c [o,O];have a:=n5 (n:=n) (d:=d) (i:=i) (k:=0) (last:=true) (z:=y) (ps:=[]) (o:=O);have a:gI n d i 1 (0==0) y [] O=_:=a;rw[a];rcases H:ko n d i (0+1) true O with e|g
  .exact(A2 λ⟨z,ps⟩ h=>by obtain⟨_,_,g,_,b,_⟩:=(i9 o O z ps).1 h;rw[b]at H;cases H).symm
  .dsimp only;rcases hp:bY y g with e|p
   .exact (A2 fun ⟨z,ps⟩ h=>by
     obtain⟨v,b,u,p,f,j,_⟩:=(i9 o O z ps).1 h;rw[hx]at b;have H:ko n d i 1 true O=.ok g:=H;rw[H]at f;cases b;cases f;rw[j]at hp;cases hp).symm
   .exact Ib ((i9 o O p.res [p]).2 ⟨y,hx,g,p,H,hp,rfl,rfl⟩)
theorem BW{n:Net}{d:Xa}(j:f7 n d=true)(b:n.lines.length<=2){i:Nat}(f:i<n.flows.length){D E:Nat->Curve->Except Int eK}(o:DelX (n.flows.getD i default).con (D i))(p:DelX (n.flows.getD i default).con (E i))(less:Xa):eE n d less D i=eE n d less E i:=by
 obtain⟨⟨⟨h,v⟩,r⟩,_⟩:=cg.1 j;have H:FlowOk n.lines (n.flows.getD i default):=h.flow _ (by simp[f]);have t:=H.ne;have u:(n.flows.getD i default).route.length=1\/(n.flows.getD i default).route.length=2:=by
  have:=ms H b;omega
 have g:=uK j f;have key:∀(l:List (List Int×Curve×List Spl)),(∀q∈l,q∈pf n d i (n.flows.getD i default).route.length [] c0 [])->∀c,l.foldl (tryX (D i)) c=l.foldl (tryX (E i)) c:=λl=>by
  induction l with
  |nil=>intro _ c;rfl
  |cons q l ih=>
   intro hq c;have e:tryX (D i) c q=tryX (E i) c q:=by
    obtain⟨a,z,ps⟩:=q;have m:=(Hl u (λk s=>Fi (λx w=>(g x w).1) s)).1 (hq _ (List.mem_cons_self ..));have:=sQ (o.same p (u9 h v r f m.1.1 m.2).kind);unfold tryX;rw[this]
   rw[List.foldl_cons,List.foldl_cons,e];exact ih (λq h=>hq q (List.mem_cons_of_mem _ h)) _
 unfold eE eA;rw[key _ (λq h=>h)]
theorem CallSpec.resW{P:Program}{f:FuncId}{v:List AV}{r R:AV}(h:CallSpec P f v [] r [])(b:AvLe r R)(k:gu [] R=true):CallSpec P f v [] R [] :=
 ⟨h.enter,h.icl,h.live,λw ρ Im x j l=>(h.calls w ρ Im x j l).mono λe W ⟨y,c,I,d,a,_,H⟩=>⟨y,c,I,d,b.con _ _ _ _ a,λi g=>by have:=cH g k;simp at this,H⟩⟩
def LT(x:Except Int (List Int)):List Int:=match x with
 |.ok l=>l
 |.error _=>[]
theorem ai{a b:Int}(h:a=b):[J a]=[J b]:=by rw[h]
def Ky(x0 x:Nat)(q:Nat):List AV:=[J (bif Nat.beq q 0 then(x0:Int)else x)]
def KK(r N n x0 x:Nat)(p:Int×Bool×Nat×Nat):Prop :=
 (r=2/\p.1=1/\p.2.1=false/\p.2.2.1=x0/\p.2.2.2=x)\/(p.1=0/\p.2.1=false/\p.2.2.1=x0/\p.2.2.2=0/\x+1=n)\/
 (p.2.1=true/\-1<=p.1/\((p.2.2.1=x0/\p.2.2.2=x+1/\x+1<n)\/(p.2.2.1=x0+1/\p.2.2.2=0/\x+1=n/\x0+1<N)))\/
 (p.2.1=false/\p.1= -1/\p.2.2.1=0/\p.2.2.2=0/\x+1=n/\x0+1=N)
theorem tw1{g:Nat->List AV}{x0 y s:Nat}{v:Int}(a:s<2)(h:g 0=[J (x0:Int)])(H:v=(y:Int)):(bif Nat.beq s 1 then[J v]else g s)=Ky x0 y s:=by
 rcases(Z:s=0\/s=1)with rfl|rfl
 .exact h
 .exact ai H
theorem tw0{g:Nat->List AV}{y x s:Nat}{v:Int}(a:s<2)(h:g 1=[J (x:Int)])(H:v=(y:Int)):(bif Nat.beq s 0 then[J v]else g s)=Ky y x s:=by
 rcases(Z:s=0\/s=1)with rfl|rfl
 .exact ai H
 .exact h
def Nw(g:NB)(l0 l:List Int)(F:eh)(p:Nat×Nat×Nat×eh):Prop:=p.2.2.2.1.found=true/\
 ((p.1=1/\p.2.1<l0.length/\p.2.2.1<l.length/\CH g l0 l p.2.1 p.2.2.1 p.2.2.2=F)\/(p.1=0/\p.2.1=0/\p.2.2.1=0/\p.2.2.2=F))
theorem JH(n:Net)(d:Xa)(hc:f7 n d=true)(hN2:n.lines.length<=2)(i:Nat)(hi:i<n.flows.length)(R:Curve->Except Int eK)(hR:RDelF (n.flows.getD i default).con R) :
  ∃b:eh,b=eE n d (fc n d) (λ_=>R) i/\q0e 42 [n.av,aF d,J i] (.tup [.agg (xb b.1),slc 5 Spl.cells default b.2,J 0]):=by
 have hf:=(cg.1 hc).1;obtain⟨⟨h,hw⟩,hd⟩:=id hf;have hfr:pt n (fc n d):=⟨⟨h,hw⟩,i8 h hw hd⟩;have hfl:=h.flen;have hfo:FlowOk n.lines (n.flows.getD i default):=h.flow _ (by simp[hi]);have hne:=hfo.ne;have hle:=ms hfo hN2;have hrt:=uK hc hi;have ho:=λk hk=>Fi (n:=n) (d:=d) (i:=i) (k:=k) (λx Q=>(hrt x Q).1) hk;obtain⟨⟨a,ea⟩,c,ec⟩:=bl_end hc hi;have p0:=iA n d hf;rw[hc]at p0;have p1:=Ey n d i;have p2:=Ey n (fc n d) i;rw[ea]at p1;rw[ec]at p2;obtain⟨_,rfl,p3⟩:=tf n d hc;obtain⟨O,eO⟩:∃O:Nat->List Int,O=λk=>LT (dd n d i k):=⟨_,rfl⟩;have hO:∀k,k<(n.flows.getD i default).route.length->dd n d i k=.ok (O k):=λk hk=>by
  obtain⟨l,hl⟩:=ho k hk;rw[eO];show _=Except.ok (LT (dd n d i k));rw[hl];rfl
 have hOb:∀k,k<(n.flows.getD i default).route.length->(1<=(O k).length/\(O k).length<=900)/\∀x∈O k,ah x:=λk hk=>by
  have:=yF h hd hi hk (hO k hk);exact⟨⟨Z,Z⟩,λx Q=>by have:=this.2 x Q;unfold ah;omega⟩
 have p4:∀k:Nat,k<(n.flows.getD i default).route.length->q0e 35 [n.av,aF d,J i,J k] (.tup [c4 (O k),J 0]):=λk hk=>by
  have p:=GI n d h hw hd i k hi hk;rw[hO k hk]at p;exact p
 have p5:=λch hl hin=>BU n d h hw hd i hi ch hl hin R hR;have hoe:=λch hl e he=>Hv h hw hd hi (c:=ch) hl hR (e:=e) he;have hB:eE n d (fc n d) (λ_=>R) i=dg (eA n d i R (n.flows.getD i default).route.length [] c0 [] (⟨true,a,1,[]⟩,[])) ⟨true,c,3,[]⟩ []:=by
  unfold eE;rw[ea,ec];rfl
 have n1:=λ(K:(n.flows.getD i default).route.length=1) (cd:eh)=>Hz (n:=n) (d:=d) (i:=i) (R:=R) (hO 0 Z) cd;have n2:=λ(K:(n.flows.getD i default).route.length=2) (cd:eh)=>HA (n:=n) (d:=d) (i:=i) (R:=R) (hO 0 Z) (hO 1 Z) cd;clear hO ho eO hrt;obtain⟨r,er⟩:∃r,r=(n.flows.getD i default).route.length:=⟨_,rfl⟩;have er2:((n.flows.getD (i:Int).toNat default).route.length:Int)=r:=by rw[er];rfl
 rw[<-er]at hne hle hOb p4 p5 hoe hB n1 n2;obtain⟨L,g,eg,hL,hL2,hN⟩:∃(L:List Int) (g:NB),(g=λc o o2=>B0 n d i R c (KQ r o o2))/\(1<=L.length/\L.length<=900)/\((r=1/\L=[0])\/(r=2/\L=O 1))/\∀cd,eA n d i R r [] c0 [] cd=J9 g (O 0) L cd:=by
  rcases(Z:r=1\/r=2)with e|e
  .exact⟨[0],_,rfl,⟨η,η⟩,.inl ⟨e,rfl⟩,λcd=>by rw[e];exact n1 e cd⟩
  .exact⟨O 1,_,rfl,(hOb 1 Z).1,.inr ⟨e,rfl⟩,λcd=>by rw[e];exact n2 e cd⟩
 obtain⟨F,eF⟩:∃F,F=eA n d i R r [] c0 [] (⟨true,a,1,[]⟩,[]):=⟨_,rfl⟩;rw[<-eF]at hB;have hO0:=(hOb 0 Z).1;have hstart:CH g (O 0) L 0 0 (⟨true,a,1,[]⟩,[])=F:=by rw[BV g Z,eF,hN]
 clear hN n1 n2 eF ea ec;rw[hB];clear er;have hr12:r=1\/r=2:=Z;refine dp func42 ntmps42 results42 ?_;repeat'(first|refine' aj|fail)
 all_goals try exact ariB
 refine⟨aV (λ_ _ _=>bQ 13 100 1 22 rfl rfl rfl) (ae (ι:={j:Nat//j<=r}) [1,2,3,6,9,10] [3,6,9] [] ⟨0,χ _⟩ (λ⟨j,_⟩=>r-j) (λ⟨j,_⟩=>[(14,J r),(13,.osl 100 j),(15,J j)]) (λ⟨j,_⟩=>[(100,some (.arr j 1 (λq=>[c4 (O q)]) 22))]) ?_ ?_).good⟩
 .refine⟨⟨rfl,rfl⟩,?_,?_⟩;all_goals((refine' subP)<;>first|exact fl rfl (ψ)|exact Γ er2|exact bt)
 .rintro⟨j,hj⟩;conv=>whnf
  by_cases hjl:(j:Int)<r
  .have p6:=p4 j Z;repeat'(first|(refine U hjl λhb=>?_;conv=>whnf)|(refine' aO [(100,78)] ⟨j+1,Z⟩<;>first|exact fl rfl λq hq=>oy (f:=λq=>[c4 (O q)]) (X:=λq=>List.take ti22.size (List.drop (q*ti22.size) (mg (0*ti22.size) (c4 (O j)).cellsL (f0 1 ti22.zero)))) rfl hq|exact bt)|refine' aj|fail)
   all_goals try first|exact bs|(exfalso;omega)|exact⟨π _,aL Z rfl⟩
  .obtain rfl:j=r:=Z;repeat(refine fg ?_;conv=>whnf)
   refine aa (λhb=>absurd hb hjl) (λhb=>?_);conv=>whnf
   refine a7 100 rfl rfl (λ_ _=>rfl) ?_ ?_ ?_
   .all_goals try refine' frzZ
   .all_goals try refine' frzZ
   conv=>whnf
   repeat'(first|refine' aj|fail)
   all_goals try exact ariB
   refine ae (ι:={p:Nat×Nat×Nat×eh//Nw g (O 0) L F p}) [1,2,3,6,13,14] [3,6] [] ⟨(1,0,0,(⟨true,a,1,[]⟩,[])),rfl,.inl ⟨rfl,κ,κ,hstart⟩⟩ (λ⟨(b,x0,u,_),_⟩=>b*(((O 0).length-x0)*1000-u)) (λ⟨(b,_,_,c),_⟩=>[(9,.lptr 9 0),(10,slc 5 Spl.cells default c.2),(18,.osl 80 j),(19,.bool (Nat.beq b 1))]) (λ⟨(_,x0,u,c),_⟩=>[(9,some (.box [.bool true,J c.1.value,J c.1.meth,c4 c.1.choice])),(80,some (.arr j 1 (Ky x0 u) 3))]) ?_ ?_
   .refine⟨⟨rfl,rfl⟩,?_,?_⟩;all_goals((refine' subP)<;>first|exact fl rfl (λq hq=>by show[J 0]=Ky 0 0 q;unfold Ky;cases Nat.beq q 0<;>rfl)|exact AvLe.nils|exact ObLe.box (.cons Θ (.cons Θ (.cons Θ (.cons AvLe.nils .nil))))|exact bt)
   .rintro⟨⟨b, x0,u,⟨⟨f,v,m,ch⟩,ps⟩⟩,hfnd,hJ⟩;conv=>whnf
    dsimp only at hfnd hJ;subst hfnd;rcases hJ with⟨rfl,hx0,hx1,hrem⟩|⟨rfl,rfl,rfl,rfl⟩
    .skip;repeat'(first|refine' aj|fail)
     all_goals try exact ariB
     obtain⟨w,eCH⟩:∃w,w=KQ j ((O 0).getD x0 0) (L.getD u 0):=⟨_,rfl⟩;have hi0:=(hOb 0 Z).2 _ (a9 (l:=O 0) hx0);have hC:w.length=j/\w.getD 0 0=(O 0).getD x0 0/\(∀x∈w,ah x)/\(j=2->w.getD 1 0=(O 1).getD u 0/\u<(O 1).length):=by
      rcases hL2 with⟨rfl,eL⟩|⟨rfl,eL⟩
      .rw[eCH];exact⟨rfl,rfl,λx Q=>by rw[List.mem_singleton.1 Q];exact hi0,λe=>Z⟩
      .rw[eL]at hx1 eCH;have hi1:=(hOb 1 Z).2 _ (a9 (l:=O 1) hx1);rw[eCH];exact ⟨rfl,rfl,fun x Q=>by
        rcases List.mem_cons.1 Q with e|Q
        .rw[e];exact hi0
        .rw[List.mem_singleton.1 Q];exact hi1,λ_=>⟨rfl,hx1⟩⟩
     obtain⟨hCl,hC0,hCin,hC1⟩:=hC;refine ae (ι:={q:Nat//q<=j}) [1,2,3,6,9,10,13,14,18,20] [3,6,9,80] [] ⟨0,χ _⟩ (λ⟨q,_⟩=>j-q) (λ⟨q,_⟩=>[(20,.osl 83 j),(21,J q)]) (λ⟨q,_⟩=>[(83,some (.arr j 1 (λs=>[J ((w.take q).getD s 0)]) 3))]) ?_ ?_
     .refine⟨⟨rfl,rfl⟩,?_,?_⟩;all_goals((refine' subP)<;>first|exact fl rfl λq hq=>rfl|exact bt)
     .rintro⟨q,hq⟩;conv=>whnf
      by_cases hql:(q:Int)<j
      .have et:=Et (0:Int) (l:=w) (j:=q) Z;rcases(Z:q=0\/(q=1/\j=2))with rfl|⟨rfl,ej⟩
       .skip;repeat'(first|(refine U hql λhb=>?_;conv=>whnf)|(refine' aO [] ⟨0+1,Z⟩<;>first|exact fl rfl (λs V=>by rw[et,hC0];exact zH (by rfl))|exact bt)|refine' aj|fail)
        all_goals try first|(show(0:Int)<=(x0:Int)/\(x0:Int)<((O 0).length:Nat);omega)|exact bs|(exfalso;omega)
       .obtain⟨K,S⟩:=hC1 ej;repeat'(first|(refine U hql λhb=>?_;conv=>whnf)|(refine' aO [] ⟨1+1,Z⟩<;>first|exact fl rfl (λs V=>by rw[et,K];exact zH (by rw[List.length_take];omega))|exact bt)|refine' aj|fail)
        all_goals try first|(show(0:Int)<=(u:Int)/\(u:Int)<((O 1).length:Nat);omega)|exact bs|(exfalso;omega)
      .obtain rfl:q=j:=Z;have hCt:w.take q=w:=by rw[<-hCl];exact List.take_length
       have pd:=p5 w hCl hCin;have H:=JG g hx1 (l0:=O 0) (x0:=x0) (⟨true,v,m,ch⟩,ps);have eg2:g (⟨true,v,m,ch⟩,ps) ((O 0).getD x0 0) (L.getD u 0)=B0 n d i R (⟨true,v,m,ch⟩,ps) w:=by rw[eg,eCH]
       rw[hrem,eg2]at H;obtain⟨W,QS,E,pd,v2,m2,C,P,I,hst⟩:∃(W:Int) (QS:List Spl) (E:Int),q0e 23 [n.av,aF d,J i,c4 w] (.tup [J W,slc 5 Spl.cells default QS,J E])/\∃v2 m2 C P,CH g (O 0) L x0 (u+1) (⟨true,v2,m2,C⟩,P)=F/\((E=0/\W<v/\v2=W/\m2=2/\C=w/\P=QS)\/(¬(E=0/\W<v)/\v2=v/\m2=m/\C=ch/\P=ps)):=by
        unfold B0 at H;rcases ho:y6 (gL n d i w) R with e|⟨y,qs⟩
        .have he:=hoe w hCl e ho;rw[ho]at pd H;exact⟨0,[],e,pd.resW (AvLe.tup (.cons Θ (.cons AvLe.nils (.cons Θ .nil)))) rfl,v,m,ch,ps,H.symm,.inr ⟨λg=>he g.1,rfl,rfl,rfl,rfl⟩⟩
        .rw[ho]at pd H;dsimp only at H;refine⟨y,qs,0,pd,?_⟩;by_cases hy:y<v
         .rw[show dg (⟨true,v,m,ch⟩,ps) ⟨true,y,2,w⟩ qs=(⟨true,y,2,w⟩,qs)from if_pos (.inr hy)]at H;exact⟨y,2,w,qs,H.symm,.inl ⟨rfl,hy,rfl,rfl,rfl,rfl⟩⟩
         .rw[show dg (⟨true,v,m,ch⟩,ps) ⟨true,y,2,w⟩ qs=(⟨true,v,m,ch⟩,ps)from if_neg (λg=>g.elim (λg=>by cases g) hy)]at H;exact⟨v,m,ch,ps,H.symm,.inr ⟨λg=>hy g.2,rfl,rfl,rfl,rfl⟩⟩
       clear H eg2;repeat(refine fg ?_;conv=>whnf)
       refine aa (λhb=>absurd hb hql) (λhb=>?_);conv=>whnf
       refine a7 83 rfl rfl (λ_ _=>rfl) ?_ ?_ ?_
       .all_goals try refine' frzZ
       .all_goals try refine' frzZ
       conv=>whnf
       refine az [1,2,3,6,9,10,13,14,18] [3,6,9,80] [] [(20,c4 w)] [] ⟨⟨rfl,rfl⟩,?_,?_⟩ ?_
       .skip;all_goals((refine' subP)<;>first|exact kd hCl.symm λs V=>by rw[hCt]|exact bt)
       .skip;all_goals((refine' subP)<;>first|exact kd hCl.symm λs V=>by rw[hCt]|exact bt)
       conv=>whnf
       have hfin:u+1=L.length->¬x0+1<(O 0).length->(⟨true,v2,m2,C⟩,P)=F:=λK S=>by
        rw[tg g K,if_neg S]at I;exact I
       have hcar:u+1=L.length->x0+1<(O 0).length->CH g (O 0) L (x0+1) 0 (⟨true,v2,m2,C⟩,P)=F:=λK S=>by
        rw[tg g K,if_pos S]at I;exact I
       have hst0:KK q (O 0).length L.length x0 u ((q:Int)-1,false,x0,u):=by
        rcases hL2 with⟨K,S⟩|⟨K,S⟩
        .have:L.length=1:=by rw[S];rfl
         exact .inr (.inl ⟨κ,rfl,rfl,κ,Z⟩)
        .exact .inl ⟨K,κ,rfl,rfl,rfl⟩
       rcases hst with⟨hE,hY,e1,e2,e3,e4⟩|⟨hE,e1,e2,e3,e4⟩;all_goals
        repeat'(first|refine' aj|fail)
        all_goals try first|exact bs|(exfalso;omega)|(exfalso;dsimp only at *;omega)
       all_goals
        refine ae (ι:={p:Int×Bool×Nat×Nat//KK q (O 0).length L.length x0 u p}) [1,2,3,6,13,14,18] [3,6] [] ⟨((q:Int)-1,false,x0,u),hst0⟩ (λ⟨(t,_,_,_),_⟩=>(t+1).toNat) (λ⟨(t,b,_,_),_⟩=>[(9,.lptr 9 0),(10,slc 5 Spl.cells default P),(19,.bool b),(25,J t)]) (λ⟨(_,_,D,G),_⟩=>[(9,some (.box [.bool true,J v2,J m2,c4 C])),(80,some (.arr q 1 (Ky D G) 3))]) ?_ ?_
        .refine⟨⟨rfl,rfl⟩,?_,?_⟩;all_goals((refine' subP)<;>first|exact Ξ (by rw[e4];rfl)|exact ObLe.box (.cons Θ (.cons (Γ e1.symm) (.cons (Γ e2.symm) (.cons (Ξ (by rw[e3];rfl)) .nil))))|exact bt)
        .rintro⟨⟨t,b,D,G⟩,hJ⟩;conv=>whnf
         have hJ:(q=2/\t=1/\b=false/\D=x0/\G=u)\/(t=0/\b=false/\D=x0/\G=0/\u+1=L.length)\/(b=true/\-1<=t/\((D=x0/\G=u+1/\u+1<L.length)\/(D=x0+1/\G=0/\u+1=L.length/\x0+1<(O 0).length)))\/(b=false/\t= -1/\D=0/\G=0/\u+1=L.length/\x0+1=(O 0).length):=hJ;rcases hJ with⟨hq2,rfl,rfl,z,A⟩|⟨rfl,rfl,z,A,Q⟩|⟨rfl,ht,hy⟩|⟨rfl,rfl,z,A,Q,hxx⟩
         .have hLO:L.length=(O 1).length:=by
           rcases hL2 with⟨K,_⟩|⟨_,S⟩
           .omega
           .rw[S]
          have hq9:∀s,s<q->s<2:=λs V=>Z;by_cases B:(u:Int)+1<((O 1).length:Nat)
          .have hn:KK q (O 0).length L.length x0 u (0,true,x0,u+1):=.inr (.inr (.inl ⟨rfl,(by decide:(-1:Int)<=0),.inl ⟨rfl,rfl,Z⟩⟩));have N:(G:Int)+1<((O 1).length:Nat):=by rw[A];exact B
           repeat'(first|(refine' aO [] ⟨(0,true,x0,u+1),hn⟩<;>first|exact fl rfl (λs V=>tw1 (hq9 s V) (ai (congrArg Nat.cast z)) (by rw[A];rfl))|exact Ξ (congrArg AV.bool (decide_eq_true (by rw[A];exact B)))|exact bt)|(refine ϕ N λhb=>?_;conv=>whnf)|refine' aj|fail)
           all_goals try first|exact bs|(show ah ((G:Int)+1);unfold ah;omega)|(show ah ((D:Int)+1);unfold ah;omega)|(exfalso;omega)
          .have hn:KK q (O 0).length L.length x0 u (0,false,x0,0):=.inr (.inl ⟨rfl,rfl,rfl,rfl,Z⟩);have N:¬(G:Int)+1<((O 1).length:Nat):=by rw[A];exact B
           repeat'(first|(refine' aO [] ⟨(0,false,x0,0),hn⟩<;>first|exact fl rfl (λs V=>(Z:s=0\/s=1).elim (λe=>by rw[e];exact ai (congrArg Nat.cast z)) λe=>by rw[e];rfl)|exact Ξ (congrArg AV.bool (decide_eq_false (by rw[A];exact B)))|exact bt)|(refine ϑ N λhb=>?_;conv=>whnf)|refine' aj|fail)
           all_goals try first|exact bs|(show ah ((G:Int)+1);unfold ah;omega)|(show ah ((D:Int)+1);unfold ah;omega)|(exfalso;omega)
         .have hq9:∀s,s<q->s<2:=λs V=>Z;by_cases B:(x0:Int)+1<((O 0).length:Nat)
          .have hn:KK q (O 0).length L.length x0 u (-1,true,x0+1,0):=.inr (.inr (.inl ⟨rfl,Int.le_refl _,.inr ⟨rfl,rfl,Q,Z⟩⟩));have N:(D:Int)+1<((O 0).length:Nat):=by rw[z];exact B
           repeat'(first|(refine' aO [] ⟨(-1,true,x0+1,0),hn⟩<;>first|exact fl rfl (λs V=>tw0 (hq9 s V) (ai (congrArg Nat.cast A)) (by rw[z];rfl))|exact Ξ (congrArg AV.bool (decide_eq_true (by rw[z];exact B)))|exact bt)|(refine ϕ N λhb=>?_;conv=>whnf)|refine' aj|fail)
           all_goals try first|exact bs|(show ah ((G:Int)+1);unfold ah;omega)|(show ah ((D:Int)+1);unfold ah;omega)|(exfalso;omega)
          .have hn:KK q (O 0).length L.length x0 u (-1,false,0,0):=.inr (.inr (.inr ⟨rfl,rfl,rfl,rfl,Q,Z⟩));have N:¬(D:Int)+1<((O 0).length:Nat):=by rw[z];exact B
           repeat'(first|(refine' aO [] ⟨(-1,false,0,0),hn⟩<;>first|exact fl rfl (λs V=>(Z:s=0\/s=1).elim (λe=>by rw[e];rfl) λe=>by rw[e];exact ai (congrArg Nat.cast A))|exact Ξ (congrArg AV.bool (decide_eq_false (by rw[z];exact B)))|exact bt)|(refine ϑ N λhb=>?_;conv=>whnf)|refine' aj|fail)
           all_goals try first|exact bs|(show ah ((G:Int)+1);unfold ah;omega)|(show ah ((D:Int)+1);unfold ah;omega)|(exfalso;omega)
         .have hn:Nw g (O 0) L F (1,D,G,(⟨true,v2,m2,C⟩,P)):=⟨rfl,.inl (by
           dsimp only;rcases hy with⟨rfl,rfl,K⟩|⟨rfl,rfl,K,S⟩
           .exact⟨rfl,hx0,K,I⟩
           .exact⟨rfl,S,Z,hcar K S⟩)⟩
          have hmz:((O 0).length-D)*1000-G<((O 0).length-x0)*1000-u:=Z;repeat'(first|(exact aI [] ⟨(1,D,G,(⟨true,v2,m2,C⟩,P)),hn⟩)|refine' aj|fail)
          all_goals try first|exact bs|(show ah ((G:Int)+1);unfold ah;omega)|(show ah ((D:Int)+1);unfold ah;omega)|(exfalso;omega)
         .have hn:Nw g (O 0) L F (0,0,0,(⟨true,v2,m2,C⟩,P)):=⟨rfl,.inr ⟨rfl,rfl,rfl,hfin Q Z⟩⟩;have hmz:0<((O 0).length-x0)*1000-u:=Z;repeat'(first|(refine' aO [] ⟨(0,0,0,(⟨true,v2,m2,C⟩,P)),hn⟩<;>first|exact fl rfl (λs V=>by rw[z,A];exact(ia _).symm)|exact bt)|refine' aj|fail)
          all_goals try first|exact bs|(show ah ((G:Int)+1);unfold ah;omega)|(show ah ((D:Int)+1);unfold ah;omega)|(exfalso;omega)
    .by_cases hcv:c<v
     .have hb2:(⟨true,c,3,[]⟩,[])=dg (⟨true,v,m,ch⟩,ps) ⟨true,c,3,[]⟩ []:=(if_pos (.inr hcv)).symm;repeat'(first|refine' aj|fail)
      all_goals try first|exact bs|(exfalso;omega)|(exfalso;dsimp only[Option.getD]at *;omega)
      exact bO ⟨(⟨true,c,3,[]⟩,[]),AvLe.tup (.cons (AvLe.agg (.cons Θ (.cons Θ (.cons Θ (.cons AvLe.nils .nil))))) (.cons AvLe.nils (.cons Θ .nil))),hb2⟩
     .have hb2:(⟨true,v,m,ch⟩,ps)=dg (⟨true,v,m,ch⟩,ps) ⟨true,c,3,[]⟩ []:=(if_neg (λg=>g.elim (λg=>by cases g) hcv)).symm;repeat'(first|refine' aj|fail)
      all_goals try first|exact bs|(exfalso;omega)|(exfalso;dsimp only[Option.getD]at *;omega)
      exact ag ⟨(⟨true,v,m,ch⟩,ps),rfl,hb2⟩
theorem A3(n:Net)(d:Xa)(b:f7 n d=true)(H:n.lines.length<=2)(D:Nat->Curve->Except Int eK)(i:Nat)(c:i<n.flows.length)(g:DelX (n.flows.getD i default).con (D i)) :
  q0e 42 [n.av,aF d,J i] (.tup [.agg (xb (eE n d (fc n d) D i).1),slc 5 Spl.cells default (eE n d (fc n d) D i).2,J 0]):=by
 obtain⟨⟨⟨h,k⟩,j⟩,_⟩:=cg.1 b;have a:FlowOk n.lines (n.flows.getD i default):=h.flow _ (by simp[c]);obtain⟨R,e,f⟩:=Hw _ (⟨a.valid,a.con_fin⟩:Gd (n.flows.getD i default).con);obtain⟨_,rfl,p⟩:=JH n d b H i c R f;rw[BW b H c (D:=λ_=>R) (E:=D) e g]at p;exact p
theorem MS(n:Net)(d:Xa)(c:f7 n d=true)(b:n.lines.length<=2)(D:Nat->Curve->Except Int eK)(m:∀i,i<n.flows.length->DelX (n.flows.getD i default).con (D i)) :
  ∃l,l=iU n d (fc n d) D n.flows.length/\q0e 37 [n.av,aF d] (.tup [slc 4 xb default l,J 0]):=by
 have k:=(cg.1 c).1;obtain⟨⟨h,u⟩,s⟩:=id k;have P:=iA n d k;rw[c]at P;have r:=h.flen;have p:=λi f=>A3 n d c b D i f (m i f);obtain⟨less,E⟩:∃less,less=fc n d:=⟨_,rfl⟩;rw[<-E]at p⊢;refine dp func37 ntmps37 results37 ?_;repeat'(first|refine' aj|fail)
 all_goals try exact bs
 refine⟨aV (λ_ _ _=>bQ 6 100 4 75 rfl rfl rfl) (ae (ι:={j:Nat//j<=n.flows.length}) [1,2] [2] [] ⟨0,χ _⟩ (λ⟨j,_⟩=>n.flows.length-j) (λ⟨j,_⟩=>[(6,.osl 100 j),(7,J j)]) (λ⟨j,_⟩=>[(100,some (.arr j 4 (ey xb default (iU n d less D j)) 75))]) ?_ ?_).good⟩
 .refine⟨⟨rfl,rfl⟩,?_,?_⟩;all_goals((refine' subP)<;>first|exact fl rfl (ψ)|exact bt)
 .rintro⟨j,t⟩;conv=>whnf
  by_cases a:(j:Int)<n.flows.length
  .have v:=p j Z;have g:=jA n d less D j;have H:∀q,q<j+1->∀e,(q=j->e=xb (eE n d less D j).1)->(bif Nat.blt q j then ey xb default (iU n d less D j) q else e)=ey xb default (iU n d less D (j+1)) q:=λq hq e o=>by
    rw[td];exact b9 xb default _ _ g.symm q hq e o
   repeat'(first|(refine U a λhb=>?_;conv=>whnf)|(refine' aO [(100,33)] ⟨j+1,Z⟩<;>first|exact fl rfl (λq hq=>H q hq _ (λe=>by rw[e,Nat.sub_self];rfl))|exact bt)|refine' aj|fail)
   all_goals try first|exact bs|exact⟨π _,aL Z rfl⟩
  .obtain rfl:j=n.flows.length:=Z;repeat'(first|(refine M a λhb=>?_;conv=>whnf)|refine' aj|fail)
   all_goals try exact bs
   refine aW [4,5] [100] [] [] [] ⟨⟨rfl,rfl⟩,?_,?_⟩ (aX 100 rfl rfl (λ_ _=>rfl) ?_ ?_ (bO ?_))
   .skip;all_goals exact bt
   .skip;all_goals exact bt
   .all_goals try refine' frzZ
   .all_goals try refine' frzZ
   .conv=>whnf
    exact⟨iU n d less D n.flows.length,AvLe.tup (.cons (kd (jA n d less D _).symm λi f=>rfl) (.cons Θ .nil)),rfl⟩
end Go.Nc