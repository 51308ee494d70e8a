/- Parts. -/
import Derived.Test.YtooapceogfengaaGreatNdBNB
import Derived.Test.YtooapceogfengaaGreatNdFBA
namespace Go.Nc
open Go.Proofs.Tryz
open Go.Proofs
set_option maxHeartbeats 8000000
theorem mJ{n:Net}{d:Xa}(o:fm n d=true){i:Nat}(j:i<n.flows.length):∀x∈(n.flows.getD i default).route,0<=rr d (n.flows.getD i default).class_ x/\0<=rr (fc n d) (n.flows.getD i default).class_ x:=λx a=>by
 obtain⟨⟨⟨h,r⟩,f⟩,p⟩:=bz.1 o;have H:FlowOk n.lines (n.flows.getD i default):=h.flow _ (by simp[j]);have m:=H.lines x a;have b:=H.cls2 x a;have l:=H.cls;have g:=mw j a;obtain⟨L,E⟩:=γ m.1;obtain⟨c,k⟩:=γ l;subst E;rw[k]at g b⊢;rw[χ]at b;have a:=p.1 L c Z b λe=>by rw[e]at g;cases g
 have a:0<=(d.getD L []).getD c 0:=a;have hb:=AF h r f (L:=L) (C:=c) Z b;have q:=(AC f (L:=L) Z).2 c (by have:=f.row L Z;omega);refine⟨a,?_⟩;show 0<=((fc n d).getD L []).getD c 0;rw[q];omega
theorem Fw{n:Net}{d:Xa}(e:fm n d=true){i:Nat}(H:i<n.flows.length):(∃a,re n d i=some a)/\∃c,re n (fc n d) i=some c:=by
 obtain⟨h,_⟩:=bz.1 e;have f:=mJ e H;rw[rg h H,rg ⟨h.1,fU h.1.1 h.1.2 h.2⟩ H];exact⟨⟨_,(nI _ _ _).2 ⟨λx b=>(f x b).1,rfl⟩⟩,_,(nI _ _ _).2 ⟨λx b=>(f x b).2,rfl⟩⟩
theorem uY{n:Net}{d:Xa}{i k:Nat}(h:∀x∈(n.flows.getD i default).route,0<=rr d (n.flows.getD i default).class_ x)(H:k<(n.flows.getD i default).route.length):∃l,dT n d i k=.ok l:=by
 have:=h _ (a8 (l:=(n.flows.getD i default).route) (i:=k) H);unfold dT;rw[if_neg (by unfold rr at this;omega)];exact⟨_,rfl⟩
theorem Hw{n:Net}{d:Xa}{i:Nat}{l:List Int}(h:dT n d i 0=.ok l){q:List Int×Curve×List Spl}:q∈pf n d i 1 [] c0 []↔∃o∈l,∃y,ko n d i 0 true o=.ok y/\q=([o],y,[]):=by
 rw[gK (r:=0) (ch:=[]) h,List.mem_flatMap];refine exists_congr λo=>and_congr_right λ_=>?_;unfold jN;rcases e:ko n d i 0 true o with E|y
 .simp[e]
 .simp[e,pf]
theorem Hx{n:Net}{d:Xa}{i:Nat}{l m:List Int}(c:dT n d i 0=.ok l)(H:dT n d i 1=.ok m){q:List Int×Curve×List Spl} :
  q∈pf n d i 2 [] c0 []↔∃o∈l,∃y,ko n d i 0 false o=.ok y/\∃O∈m,∃a p,ko n d i 1 true O=.ok a/\c7 y a=.ok p/\q=([o,O],p.res,[p]):=by
 rw[gK (r:=1) (ch:=[]) c,List.mem_flatMap];refine exists_congr λo=>and_congr_right λ_=>?_;rcases e:ko n d i 0 false o with f|y
 .simp[jN,e]
 .have E:jN n d i ([]:List Int).length (1==0) c0 [] o=some (y,[]):=by
   show jN n d i 0 false c0 [] o=_;unfold jN;rw[e];rfl
  rw[E];dsimp only;have H:dT n d i ([o]:List Int).length=.ok m:=by rw[List.length_singleton];exact H
  rw[List.nil_append,gK (r:=0) (ch:=[o]) H,List.mem_flatMap];have:∀P:Curve->Prop,(∃b,Except.ok y=(Except.ok b:Except Int Curve)/\P b)↔P y:=λP=>⟨λ⟨_,e,h⟩=>by cases e;exact h,λh=>⟨_,rfl,h⟩⟩;rw[this];refine exists_congr λO=>and_congr_right λ_=>?_;show(q∈match jN n d i 1 true y [] O with |none=>[]|some z=>pf n d i 0 ([o]++[O]) z.1 z.2)↔_;unfold jN;rcases e2:ko n d i 1 true O with g|a
  .simp
  .dsimp only;rw[if_neg (Z:¬(1=0))];rcases e4:c7 y a with j|p
   .simp[e4]
   .simp[e4,pf]
theorem mK{n:Net}{d:Xa}{i:Nat}(o:Int)(z:Curve)(ps:List Spl):fQ n d i [o]=.ok (z,ps)↔ko n d i 0 true o=.ok z/\ps=[]:=by
 have e:o5 n d i [o] 0=ko n d i 0 true o:=rfl;unfold fQ;show(match(match o5 n d i [o] 0 with |.error e=>Except.error e|.ok z=>.ok ([]++[z]):Except Int (List Curve))with |.error e=>Except.error e|.ok l=>fB (l.getD 0 c0) (l.drop 1) [])=_↔_;rw[e];rcases ko n d i 0 true o with E|y
 .simp
 .simp[fB,eq_comm]
theorem iO{n:Net}{d:Xa}{i:Nat}(o O:Int)(z:Curve)(ps:List Spl):fQ n d i [o,O]=.ok (z,ps)↔∃y,ko n d i 0 false o=.ok y/\∃a p,ko n d i 1 true O=.ok a/\c7 y a=.ok p/\z=p.res/\ps=[p]:=by
 have e:o5 n d i [o,O] 0=ko n d i 0 false o:=rfl;have b:o5 n d i [o,O] 1=ko n d i 1 true O:=rfl;unfold fQ;show(match(match(match o5 n d i [o,O] 0 with |.error e=>Except.error e|.ok z=>.ok ([]++[z]):Except Int (List Curve))with |.error e=>Except.error e|.ok l=>match o5 n d i [o,O] 1 with |.error e=>Except.error e|.ok z=>.ok (l++[z]):Except Int (List Curve))with |.error e=>Except.error e|.ok l=>fB (l.getD 0 c0) (l.drop 1) [])=_↔_;rw[e,b];rcases ko n d i 0 false o with E|y
 .simp
 .rcases ko n d i 1 true O with E|a
  .simp
  .rcases e3:c7 y a with c|p
   .simp[fB,e3]
   .simp[fB,e3,eq_comm]
def ic(n:Net)(d:Xa)(i:Nat)(c:List Int):Prop:=c.length=(n.flows.getD i default).route.length/\∀k,k<c.length->∃l,dT n d i k=.ok l/\c.getD k 0∈l
theorem uZ{n:Net}{d:Xa}{i:Nat}(r:(n.flows.getD i default).route.length=1\/(n.flows.getD i default).route.length=2)(q:∀k,k<(n.flows.getD i default).route.length->∃l,dT n d i k=.ok l){c:List Int}{z:Curve}{ps:List Spl} :
  (c,z,ps)∈pf n d i (n.flows.getD i default).route.length [] c0 []↔ic n d i c/\fQ n d i c=.ok (z,ps):=by
 unfold ic;rcases r with r|r<;>rw[r]at q⊢
 .obtain⟨l,h⟩:=q 0 Z;rw[Hw h];constructor
  .rintro⟨o,H,y,g,e⟩;cases e;refine⟨⟨rfl,λk t=>?_⟩,(mK _ _ _).2 ⟨g,rfl⟩⟩;obtain rfl:k=0:=by simp at t;omega
   exact⟨l,h,H⟩
  .rintro⟨⟨b,j⟩,s⟩;rcases c with _|⟨o,_|⟨_,_⟩⟩
   .simp at b
   .obtain⟨f,rfl⟩:=(mK _ _ _).1 s;obtain⟨L,e,u⟩:=j 0 η;rw[h]at e;cases e;exact⟨o,u,z,f,rfl⟩
   .simp at b
 .obtain⟨l,h⟩:=q 0 Z;obtain⟨m,b⟩:=q 1 Z;rw[Hx h b];constructor
  .rintro⟨o,H,y,g,O,w,A,p,a,x,e⟩;cases e;refine⟨⟨rfl,λk t=>?_⟩,(iO _ _ _ _).2 ⟨y,g,A,p,a,x,rfl,rfl⟩⟩;match k with
   |0=>exact⟨l,h,H⟩
   |1=>exact⟨m,b,w⟩
   |k+2=>simp at t;omega
  .rintro⟨⟨f,j⟩,s⟩;rcases c with _|⟨o,_|⟨O,_|⟨_,_⟩⟩⟩
   .simp at f
   .simp at f
   .obtain⟨y,g,A,p,a,x,rfl,rfl⟩:=(iO _ _ _ _).1 s;obtain⟨L,e,u⟩:=j 0 η;obtain⟨B,E,v⟩:=j 1 η;rw[h]at e;rw[b]at E;cases e;cases E;exact⟨o,u,y,g,O,v,A,p,a,x,rfl⟩
   .simp at f
def PJ(n:Net)(d:Xa)(i:Nat)(D:Curve->Except Int eK)(m:Int)(ch:List Int)(ps:List Spl)(v:Int):Prop :=
 (m=1/\ch=[]/\ps=[]/\re n d i=some v)\/(m=3/\ch=[]/\ps=[]/\re n (fc n d) i=some v)\/(m=2/\ic n d i ch/\∀l,Kp n d i ch D ps l↔v<=l)
theorem Fx{x:Except Int eK}{v:Int}(h:cB x=.ok v)(l:Int):J5 x l=true↔v<=l:=by
 unfold cB at h;unfold J5;rcases x with e|⟨b,w,t⟩
 .cases h
 .dsimp only at h⊢;split at h
  .cases h
  .rename_i g;cases h;rcases b with _|_
   .simp
   .exact absurd (.inl rfl) g
theorem Io{n:Net}{d:Xa}(e:pt n d){i:Nat}(f:i<n.flows.length){a:Int}(b:re n d i=some a):0<=a/\a<=10000:=by
 obtain⟨⟨h,_⟩,c⟩:=id e;have H:FlowOk n.lines (n.flows.getD i default):=h.flow _ (by simp[f]);rw[rg e f]at b;have j:=H.ne;have hb:=vP (fun x g=>by
  have l:=H.lines x g;have m:=H.cls2 x g;have k:=H.cls;have o:=c.row x.toNat Z;exact(c.val x.toNat (n.flows.getD i default).class_.toNat Z Z).2) b
 omega
theorem DelX.nn{a:Curve}{D:Curve->Except Int eK}(h:DelX a D){z:Curve}(d:ar z){v:Int}(c:cB (D z)=.ok v):0<=v/\v<=10000:=by
 obtain⟨x,E⟩:∃x,x=D z:=⟨_,rfl⟩;have f:∀v w,x=.ok (false,v,w)->0<=v:=λv w e=>by
  rcases d with d|⟨k,i,rfl⟩
  .obtain⟨_,_,_,_,H⟩:=h.nrm z d;rw[<-E,e]at H;split at H
   .exact(H.2 rfl).1
   .cases H
  .have H:=h.wait k i;rw[<-E,e]at H;exact(H.2 rfl).1
 rw[<-E]at c;clear E;rcases x with e|⟨b,u,w⟩
 .cases c
 .unfold cB at c;dsimp only at c;split at c
  .cases c
  .rename_i g;cases c;rcases b with _|_
   .exact⟨f _ _ rfl,Z⟩
   .exact absurd (.inl rfl) g
theorem mL{n:Net}{d:Xa}(u:fm n d=true)(q:n.lines.length<=2){i:Nat}(b:i<n.flows.length){D:Nat->Curve->Except Int eK}(R:DelX (n.flows.getD i default).con (D i)) :
  (d7 n d (fc n d) D i).1.found=true/\(0<=(d7 n d (fc n d) D i).1.value/\(d7 n d (fc n d) D i).1.value<=10000)/\PJ n d i (D i) (d7 n d (fc n d) D i).1.meth (d7 n d (fc n d) D i).1.choice (d7 n d (fc n d) D i).2 (d7 n d (fc n d) D i).1.value:=by
 obtain⟨⟨⟨h,m⟩,o⟩,_⟩:=bz.1 u;have j:FlowOk n.lines (n.flows.getD i default):=h.flow _ (by simp[b]);have hne:=j.ne;have hr:(n.flows.getD i default).route.length=1\/(n.flows.getD i default).route.length=2:=by
  have:=kC j q;omega
 have w:=mJ u b;have V:=λ{c z ps}=>uZ (n:=n) (d:=d) (i:=i) hr (λk W=>uY (λx hx=>(w x hx).1) W) (c:=c) (z:=z) (ps:=ps);obtain⟨⟨a,s⟩,c,H⟩:=Fw u b;unfold d7;rw[s,H];obtain⟨C,y⟩:∃C,C=Ki (some a) 1 (rE,[]):=⟨_,rfl⟩;rw[<-y];have A:C=(⟨true,a,1,[]⟩,[]):=by
  rw[y];show cC (rE,[]) ⟨true,a,1,[]⟩ []=_;unfold cC;exact if_pos (.inl rfl)
 obtain⟨f,E⟩:∃f,f=fk n d i (D i) (n.flows.getD i default).route.length [] c0 [] C:=⟨_,rfl⟩;rw[<-E];obtain⟨N,t2,t⟩:=yR (D i) (pf n d i (n.flows.getD i default).route.length [] c0 []) C;have E:f=(pf n d i (n.flows.getD i default).route.length [] c0 []).foldl (iC (D i)) C:=E;rw[<-E]at N t2 t;obtain⟨f2,l2⟩:=N (by rw[A]);have P:Ki (some c) 3 f=cC f ⟨true,c,3,[]⟩ []:=rfl;rw[P];refine⟨hZ _ _ _ rfl,?_⟩;have S:pt n d:=⟨⟨h,m⟩,o⟩;rcases qZ f ⟨true,c,3,[]⟩ []with e|e
 .rw[e];exact⟨Io ⟨⟨h,m⟩,fU h m o⟩ b H,.inr (.inl ⟨rfl,rfl,rfl,H⟩)⟩
 .rw[e];rcases t with t|⟨⟨l,z,ps⟩,X,v,p,t⟩
  .rw[t,A];exact⟨Io S b s,.inl ⟨rfl,rfl,rfl,s⟩⟩
  .rw[t];have p:cB (D i z)=.ok v:=p;obtain⟨K,B⟩:=V.1 X;obtain⟨O,r,F,m2,I,m4,_⟩:=(hU h m o b K.1 B).hops;refine⟨R.nn (hU h m o b K.1 B).kind p,.inr (.inr ⟨rfl,K,λL=>?_⟩)⟩;show Kp n d i l (D i) ps L↔v<=L;rw[<-Fx p L];constructor
   .rintro⟨a2,r2,G,_,Q⟩;rw[F]at G;cases G;rw[I];exact Q
   .intro g;exact⟨O,r,F,m2,by rw[<-I];exact g⟩
noncomputable def L3(n:Net)(d l:Xa)(D:Nat->Curve->Except Int eK)(k:Nat):List eh:=(List.range k).map λi=>d7 n d l D i
instance:Inhabited eh:=⟨(rE,[])⟩
theorem Fy{n:Net}(h:NetOk n){N:Nat}{d:Xa}{k:Nat}(l:q7 n (iI n) N (some (d,k))):ShapeOk n d/\iH n d=d/\u9 n d d/\fm n d=true:=by
 obtain⟨o,p,E,q,K,m⟩:=id l;have b:ShapeOk n d:=by rw[E];exact gX h k
 have H:iH n d=d:=by
  have e:iI n (k-1+1)=iH n (iI n (k-1)):=rfl;rw[m,(Z:k-1+1=k),<-E]at e;exact e.symm
 have a:u9 n d d:=by
  rw[<-E]at K;exact⟨K,λi c f g j=>⟨K i c f g j,Int.le_refl _⟩⟩
 exact⟨b,H,a,bz.2 ⟨⟨⟨h,h.names⟩,b⟩,by rw[H];exact a⟩⟩
theorem jP(n:Net)(d:Xa)(h:pt n d):bx 15 [n.av,aB d] (.bool (fm n d)):=by
 obtain⟨b,hb,p⟩:=Hs n d h.1.1 h.1.2 h.2;rw[tq h hb]at p;exact p
theorem Ip{n:Net}{d:Xa}(b:pt n d){i:Nat}(c:i<n.flows.length){a:Int}(H:re n d i=some a)(x m:Int):bx 77 [n.av,aB d,J i,.agg (bX (⟨true,x,m,[]⟩,[]))] (.bool (decide (a<=x))):=by
 have p:=Fv n d i;rw[H]at p;have p:bx 69 [n.av,aB d,J i] (.tup [J a,.bool true]):=p;show bx 77 [n.av,aB d,J i,.agg [.bool true,J x,J m,c4 [],iB 5 Spl.cells default []]] (.bool (decide (a<=x)));by_cases h:a<=x
 .rw[decide_eq_true h];refine' db func77 ntmps77 results77
  all_goals first|exact Y|(exfalso;omega)|omega
 .rw[decide_eq_false h];refine' db func77 ntmps77 results77
  all_goals first|exact Y|(exfalso;omega)|omega
def JN:LObj:=.map [(J 1,.fn 77 []),(J 3,.fn 78 []),(J 2,.fn 80 [])]
theorem AG(i:List Nat):eu i JN:=λk v h=>by
 simp only[List.mem_cons,List.not_mem_nil,or_false,Prod.mk.injEq]at h;rcases h with⟨rfl,rfl⟩|⟨rfl,rfl⟩|⟨rfl,rfl⟩<;>exact⟨rfl,rfl⟩
theorem l7:fl 48 [] [] (.mref 904) [(904,JN)]:=by
 refine ee func48 ntmps48 results48 (λ_ _ _=>?_) (hcl:=⟨rfl,rfl,rfl,by simp,bW (AG _),rfl⟩);repeat'(first|(refine gv ?_;conv=>whnf)|(refine Side.mk ?_ ?_;rotate_left;conv=>whnf)|(refine VLook.mk ⟨none,rfl,?_⟩;conv=>whnf))
 refine⟨⟨[(0,.mref 904)],[(904,some JN)]⟩,fZ [(904,1)] ⟨⟨rfl,rfl⟩,⟨⟨AG _,?_⟩,trivial⟩,⟨rfl,Y⟩,trivial⟩,Y,rfl,trivial⟩;exact kd
theorem yS(n:Net)(d:Xa)(a:fm n d=true)(H:n.lines.length<=2):bx 79 [n.av,aB d] (.tup [aB (fc n d),J 0]):=by
 have c:=(bz.1 a).1;obtain⟨⟨h,e⟩,b⟩:=id c;have p:=uW n d;rw[a]at p;have P:=tt n d h e b H;refine' db func79 ntmps79 results79
 all_goals exact Y
theorem Hy{n:Net}{d:Xa}(b:fm n d=true)(H:n.lines.length<=2){i:Nat}(g:i<n.flows.length){a:Int}(e:re n (fc n d) i=some a)(x m:Int):bx 78 [n.av,aB d,J i,.agg (bX (⟨true,x,m,[]⟩,[]))] (.bool (decide (a<=x))):=by
 obtain⟨⟨⟨h,c⟩,f⟩,_⟩:=bz.1 b;have p:=yS n d b H;have P:=Ip ⟨⟨h,c⟩,fU h c f⟩ g e x m;refine' db func78 ntmps78 results78
 all_goals first|exact Y|(exfalso;omega)|omega
theorem Cf{n:Net}{d:Xa}(h:NetOk n)(b:ShapeOk n d){i:Nat}(e:i<n.flows.length){c:List Int}(a:ic n d i c):∀x∈c,ah x:=λx j=>by
 obtain⟨k,H,rfl⟩:=List.mem_iff_getElem.1 j;obtain⟨l,f,g⟩:=a.2 k H;have:=(rd h b e (by rw[<-a.1];exact H) f).2 _ g;rw[show c.getD k 0=c[k] by simp[H]]at this;unfold ah;omega
theorem Hz{n:Net}{d:Xa}(h:pt n d){i:Nat}(b:i<n.flows.length){D:Curve->Except Int eK}(f:DelF (n.flows.getD i default).con D){c:List Int}(a:ic n d i c){ps:List Spl}{v:Int}(g:∀l,Kp n d i c D ps l↔v<=l)(x m:Int):bx 80 [n.av,aB d,J i,.agg (bX (⟨true,x,m,c⟩,ps))] (.bool (decide (v<=x))):=by
 obtain⟨r,H,p⟩:=Fe n d h.1.1 h.1.2 h.2 i b c a.1 (Cf h.1.1 h.2 b a) D f ps x;rw[g]at H;obtain rfl:r=decide (v<=x):=by
  rcases r with _|_
  .exact(decide_eq_false λe=>by have:=H.2 e;cases this).symm
  .exact(decide_eq_true (H.1 rfl)).symm
 refine' db func80 ntmps80 results80
 all_goals first|exact Y|(exfalso;omega)|omega
theorem HA{n:Net}{d:Xa}(b:fm n d=true)(a:n.lines.length<=2){i:Nat}(e:i<n.flows.length){D:Curve->Except Int eK}(l:DelF (n.flows.getD i default).con D)(c:eh)(g:c.1.found=true){v:Int}(h:PJ n d i D c.1.meth c.1.choice c.2 v):bx 24 [n.av,aB d,J i,.agg (bX c)] (.bool (decide (v<=c.1.value))):=by
 obtain⟨⟨f,x,m,ch⟩,ps⟩:=c;dsimp only at g h⊢;subst g;have H:=(bz.1 b).1;have o:=H.1.1.flen;have P:=uW n d;rw[b]at P;rcases h with⟨rfl,rfl,rfl,h⟩|⟨rfl,rfl,rfl,h⟩|⟨rfl,j,k⟩
 .have p:=Ip H e h x 1;refine ee func24 ntmps24 results24 λ_ _ _=>?_;repeat'(first|refine' aj|(refine dF l7 rfl ?_;conv=>whnf)|(refine VLook.mk ⟨some (_,_),rfl,?_⟩;conv=>whnf))
  all_goals first|exact Y|(exfalso;omega)|omega
 .have p:=Hy b a e h x 3;refine ee func24 ntmps24 results24 λ_ _ _=>?_;repeat'(first|refine' aj|(refine dF l7 rfl ?_;conv=>whnf)|(refine VLook.mk ⟨some (_,_),rfl,?_⟩;conv=>whnf))
  all_goals first|exact Y|(exfalso;omega)|omega
 .have p:=Hz H e l j k x 2;refine ee func24 ntmps24 results24 λ_ _ _=>?_;repeat'(first|refine' aj|(refine dF l7 rfl ?_;conv=>whnf)|(refine VLook.mk ⟨some (_,_),rfl,?_⟩;conv=>whnf))
  all_goals first|exact Y|(exfalso;omega)|omega
def nJ(n:Net)(d:Xa)(D:Nat->Curve->Except Int eK)(L:List eh)(V:Nat->Int):Prop:=∀i,i<n.flows.length->(L.getD i default).1.found=true/\PJ n d i (D i) (L.getD i default).1.meth (L.getD i default).1.choice (L.getD i default).2 (V i)
def xw(d:Xa)(L:List eh):AV:=.agg [aB d,iB 5 bX default L]
theorem mM{n:Net}{d:Xa}(f:fm n d=true)(e:n.lines.length<=2){D:Nat->Curve->Except Int eK}(m:∀i,i<n.flows.length->DelF (n.flows.getD i default).con (D i)){L:List eh}{V:Nat->Int}(s:L.length=n.flows.length)(l:nJ n d D L V) :
  ∃b:Bool,(b=true↔∀i,i<n.flows.length->V i<=(L.getD i default).1.value)/\bx 9 [n.av,xw d L] (.bool b):=by
 have o:=(bz.1 f).1;have r:=o.1.1.flen;have P:=uW n d;rw[f]at P;unfold xw;refine dp func9 ntmps9 results9 ?_;repeat'(first|refine' ag|fail)
 all_goals try exact ez
 refine ae (ι:={j:Nat//j<=n.flows.length/\∀q,q<j->V q<=(L.getD q default).1.value}) [2,3,22,23] [2,3] [] ⟨0,π _,ν⟩ (λ⟨j,_⟩=>n.flows.length-j) (λ⟨j,_⟩=>[(24,J j)]) (λ_=>[]) ?_ ?_
 .exact⟨⟨rfl,rfl⟩,bt,bt⟩
 .rintro⟨j,u,k⟩;conv=>whnf
  by_cases a:(j:Int)<L.length
  .have H:j<n.flows.length:=Z;have p:=HA f e H (m j H) (L.getD j default) (l j H).1 (l j H).2;by_cases c:V j<=(L.getD j default).1.value
   .rw[decide_eq_true c]at p;repeat'(first|(refine U a λhb=>?_;conv=>whnf)|(exact aH [] ⟨j+1,Z,λq hq=>(ζ q j).elim (k q) λg=>by(obtain rfl:q=j:=Z);exact c⟩)|refine' ag|fail)
    all_goals try exact bs
   .rw[decide_eq_false c]at p;repeat'(first|(refine U a λhb=>?_;conv=>whnf)|refine' ag|fail)
    all_goals try exact bs
    exact ac ⟨false,rfl,λh=>(by cases h),λh=>absurd (h j H) c⟩
  .skip;repeat'(first|(refine M a λhb=>?_;conv=>whnf)|refine' ag|fail)
   all_goals try exact bs
   exact ac ⟨true,rfl,λ_ i t=>k i Z,λ_=>rfl⟩
theorem Fz(n:Net)(d:Xa)(m:fm n d=true)(f:n.lines.length<=2){k:Nat}(P:bx 21 [n.av,J 60] (.tup [aB d,J k,J 0])){D:Nat->Curve->Except Int eK}(r:∀i,i<n.flows.length->DelF (n.flows.getD i default).con (D i)) :
  ∃l,l=L3 n d (fc n d) D n.flows.length/\bx 8 [n.av] (.tup [xw d l,J 0]):=by
 have s:=(bz.1 m).1;have u:=s.1.1.flen;have p:=λi b=>JM n d m f D i b (r i b);obtain⟨B,E⟩:∃B,B=λi=>d7 n d (fc n d) D i:=⟨_,rfl⟩;have o:∀k,L3 n d (fc n d) D k=(List.range k).map B:=λk=>by rw[E];rfl
 have p:∀i,i<n.flows.length->bx 22 [n.av,aB d,J i] (.tup [.agg (xb (B i).1),iB 5 Spl.cells default (B i).2,J 0]):=λi b=>by rw[E];exact p i b
 rw[o];have h:∀k,((List.range k).map B).length=k:=λk=>by simp
 have H:∀k,(List.range (k+1)).map B=(List.range k).map B++[B k]:=λk=>by simp[List.range_succ]
 unfold xw;refine dp func8 ntmps8 results8 ?_;repeat'(first|refine' ag|fail)
 all_goals try exact bs
 refine⟨aQ (λ_ _ _=>jX 7 1 100 5 49 rfl rfl rfl rfl) (ae (ι:={j:Nat//j<=n.flows.length}) [1,2,4,7,26] [1,2] [] ⟨0,π _⟩ (λ⟨j,_⟩=>n.flows.length-j) (λ⟨j,_⟩=>[(27,J j)]) (λ⟨j,_⟩=>[(7,some (.box [aB d,.osl 100 j])),(100,some (.arr j 5 (ey bX default ((List.range j).map B)) 49))]) ?_ ?_).good⟩
 .refine⟨⟨rfl,rfl⟩,?_,?_⟩;all_goals((refine' b9)<;>first|exact cy rfl (ν)|exact bt)
 .rintro⟨j,v⟩;conv=>whnf
  by_cases c:(j:Int)<n.flows.length
  .have w:=p j Z;have g:=h j;have a:∀q,q<j+1->∀e,(q=j->e=bX (B j))->(bif Nat.blt q j then ey bX default ((List.range j).map B) q else e)=ey bX default ((List.range (j+1)).map B) q:=λq hq e t=>by
    rw[H];exact bC bX default _ _ g.symm q hq e t
   repeat'(first|(refine U c λhb=>?_;conv=>whnf)|(refine' aN [(100,48)] ⟨j+1,Z⟩<;>first|exact cy rfl (λq hq=>a q hq _ (λe=>by rw[e,Nat.sub_self];rfl))|exact bt)|refine' ag|fail)
   all_goals try first|exact bs|exact⟨ξ _,aL Z rfl⟩
  .obtain rfl:j=n.flows.length:=Z;repeat'(first|(refine M c λhb=>?_;conv=>whnf)|refine' ag|fail)
   all_goals try exact bs
   refine aU [2,3] [2,100] [] [] [] ⟨⟨rfl,rfl⟩,?_,?_⟩ (bb 100 rfl rfl (λ_ _=>rfl) ?_ ?_ (bQ ?_))
   .skip;all_goals exact bt
   .skip;all_goals exact bt
   .all_goals try refine' b8
   .all_goals try refine' b8
   .conv=>whnf
    exact⟨(List.range n.flows.length).map B,AvLe.tup (.cons (AvLe.agg (.cons Y (.cons (Γ (h _).symm λi b=>rfl) .nil))) (.cons Y .nil)),rfl⟩
theorem F0(d:Xa)(b:eh)(x m:Int)(ch:List Int)(ps:List Spl):bx 17 [xw d [b,(⟨true,x,m,ch⟩,ps)],J 1] (.tup [J x,.bool true]):=by
 unfold xw;have h:((([b,(⟨true,x,m,ch⟩,ps)]:List eh).length:Nat):Int)=2:=rfl;refine' db func17 ntmps17 results17
 all_goals first|exact Y|(exfalso;omega)|omega
theorem HB:∃_:Unit,True/\fl 16 [] [] (bN 10).av []:=by
 have p:=sk 4 4 4 φ φ;refine dp func16 ntmps16 results16 ?_;repeat'(first|(refine au [] [0,1,2] [] [(0,.lptr 0 0),(1,.lptr 1 0),(2,.lptr 2 0),(3,.lptr 3 0)] [(3,some (.box (LO ⟨#[103]⟩ (.osl 10 2)))),(10,some (.arr 2 1 (ey hP 0 [1,0]) 3))] ⟨⟨rfl,rfl⟩,?_,?_⟩ ?_;(solve|((refine' b9)<;>first|exact cy rfl (KM rfl rfl)|exact bt));(solve|((refine' b9)<;>first|exact cy rfl (KM rfl rfl)|exact bt));(conv=>whnf);(refine az 10 rfl rfl (λ_ _=>rfl) ?_ ?_ ?_;(solve|try refine' b8);(solve|try refine' b8));(conv=>whnf))|(refine au [] [0] [] [(0,.lptr 0 0),(1,.lptr 1 0),(2,.lptr 2 0)] [(1,some (.box (Line.cells ⟨1,10,1,[],[]⟩))),(2,some (.box (LO ⟨#[102]⟩ (.osl 5 2)))),(5,some (.arr 2 1 (ey hP 0 [0,1]) 3))] ⟨⟨rfl,rfl⟩,?_,?_⟩ ?_;(solve|((refine' b9)<;>first|exact cy rfl (KM rfl rfl)|exact ObLe.box (.cons Y (.cons Y (.cons Y (.cons AvLe.nils (.cons AvLe.nils .nil)))))|exact bt));(solve|((refine' b9)<;>first|exact cy rfl (KM rfl rfl)|exact ObLe.box (.cons Y (.cons Y (.cons Y (.cons AvLe.nils (.cons AvLe.nils .nil)))))|exact bt));(conv=>whnf);(refine az 5 rfl rfl (λ_ _=>rfl) ?_ ?_ ?_;(solve|try refine' b8);(solve|try refine' b8));(conv=>whnf))|refine' ag|fail)
 refine aU [0] [] [] [] [(0,some (.box [.osl 13 2,.osl 16 2,.osl 19 2])),(13,some (.arr 2 1 (ey J6 .empty (bN 10).names) 9)),(16,some (.arr 2 5 (ey Line.cells default (bN 10).lines) 62)),(19,some (.arr 2 8 (ey Flow.cells default (bN 10).flows) 69))] ⟨⟨rfl,rfl⟩,?_,?_⟩ (bb 13 rfl rfl (λ_ _=>rfl) ?_ ?_ (bb 16 rfl rfl (λ_ _=>rfl) ?_ ?_ (bb 19 rfl rfl (λ_ _=>rfl) ?_ ?_ (bQ ?_))))
 .skip;all_goals((refine' b9)<;>first|exact cy rfl (KM rfl rfl)|exact bt)
 .skip;all_goals exact bt
 .all_goals try refine' b8
 .all_goals try refine' b8
 .all_goals try refine' b8
 .all_goals try refine' b8
 .all_goals try refine' b8
 .all_goals try refine' b8
 .conv=>whnf
  exact⟨(),AvLe.agg (.cons (Γ rfl λi h=>rfl) (.cons (Γ rfl λi h=>rfl) (.cons (Γ rfl λi h=>rfl) .nil))),trivial⟩
theorem xz:∃k:Nat,bx 21 [(bN 10).av,J 60] (.tup [aB [[0],[0]],J k,J 0]):=by
 obtain⟨x,a,p⟩:=sQ (bN 10) (mr 10 φ) 60 φ φ;rw[show iI (bN 10)=λ_=>[[0],[0]]from funext nZ]at a;have H:∀k,1<=k->¬nY (bN 10) (λ_=>[[0],[0]]) k:=λk c H=>(H 1 φ c).2 rfl;rcases x with _|⟨d,k⟩
 .rcases a with⟨k,e,f,g,b⟩|h
  .exact absurd (qB (Int.le_refl 0) (Int.le_refl 0)) b
  .exact absurd h (H 60 φ)
 .obtain⟨_,_,rfl,_⟩:=a;exact⟨k,p⟩
theorem F1:fm (bN 10) [[0],[0]] = true:=bz.2 ⟨⟨⟨mr 10 φ,(mr 10 φ).names⟩,sS 10 0 0 φ φ⟩,by
 rw[qA];exact⟨qB (Int.le_refl 0) (Int.le_refl 0),qB ⟨Int.le_refl 0,Int.le_refl 0⟩ ⟨Int.le_refl 0,Int.le_refl 0⟩⟩⟩
theorem MO:∃b:Bool,b=true/\bx 5 [] (.bool b):=by
 obtain⟨_,_,w⟩:=HB;have a:=F1;have h:(bN 10).lines.length<=2:=ξ 2;obtain⟨D,d⟩:=In (bN 10) (mr 10 φ);obtain⟨k,P⟩:=xz;obtain⟨L,g,y⟩:=Fz (bN 10) [[0],[0]] a h P λi j=>(d i j).1;have q:=mL a h (i:=0) φ (d 0 φ).2;have Q:=mL a h (i:=1) φ (d 1 φ).2;obtain⟨B,E⟩:∃b,b=d7 (bN 10) [[0],[0]] (fc (bN 10) [[0],[0]]) D 0:=⟨_,rfl⟩;obtain⟨b1,f⟩:∃b,b=d7 (bN 10) [[0],[0]] (fc (bN 10) [[0],[0]]) D 1:=⟨_,rfl⟩;have g:L=[B,b1]:=by rw[g,E,f];rfl
 rw[<-E]at q;rw[<-f]at Q;clear E f;subst g;obtain⟨⟨F,v,m,c0⟩,s⟩:=B;obtain⟨⟨u,V,e,c⟩,S⟩:=b1;obtain⟨rfl,G,x0⟩:=q;obtain⟨rfl,t,x⟩:=Q;dsimp only at G t x0 x;have H:=λi (j:i<(bN 10).flows.length)=>(d i j).1;have o:nJ (bN 10) [[0],[0]] D [(⟨true,v,m,c0⟩,s),(⟨true,V,e,c⟩,S)] (λi=>if i=0 then v else V):=KM ⟨rfl,x0⟩ ⟨rfl,x⟩;have p:nJ (bN 10) [[0],[0]] D [(⟨true,v-1,m,c0⟩,s),(⟨true,V,e,c⟩,S)] (λi=>if i=0 then v else V):=KM ⟨rfl,x0⟩ ⟨rfl,x⟩;obtain⟨R,l,z⟩:=mM a h H rfl o;obtain rfl:R=true:=l.2 (KM (Int.le_refl v) (Int.le_refl V));obtain⟨r,n,A⟩:=mM a h H rfl p;obtain rfl:r=false:=by
  cases r with
  |false=>rfl
  |true=>
   have:v<=v-1:=n.1 rfl 0 φ;omega
 have C:=F0 [[0],[0]] (⟨true,v,m,c0⟩,s) V e c S;clear l n o p x0 x;refine dp func5 ntmps5 results5 ?_;repeat'(first|(refine au [0,1,3,4] [1] [] [(5,.lptr 5 0)] [(5,some (.box [aB [[0],[0]],.osl 34 2])),(34,some (.arr 2 5 (ey bX default [(⟨true,v-1,m,c0⟩,s),(⟨true,V,e,c⟩,S)]) 49))] ⟨⟨rfl,rfl⟩,?_,?_⟩ ?_;(solve|((refine' b9)<;>first|exact cy rfl (KM rfl rfl)|exact bt));(solve|((refine' b9)<;>first|exact cy rfl (KM rfl rfl)|exact bt));(conv=>whnf);(refine az 34 rfl rfl (λ_ _=>rfl) ?_ ?_ ?_;(solve|try refine' b8);(solve|try refine' b8));(conv=>whnf))|refine' ag|fail)
 all_goals first|exact(hb rfl).elim|exact ac ⟨true,rfl,rfl⟩|(unfold oR;exact⟨.inl (φ:0+2<=1099511627776),KM rfl rfl⟩)|exact(⟨φ,φ⟩:(0:Int)<=1/\(1:Int)<2)|exact(⟨φ,φ⟩:(0:Int)<=0/\(0:Int)<2)|exact(by decide:0<2)|(show ah (v-1);unfold ah;omega)
end Go.Nc