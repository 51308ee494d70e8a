/- Parts. -/
import Derived.Test.YtooapceogfengaaGreatNdCEA
import Derived.Test.YtooapceogfengaaGreatNdR3X
namespace Go.Nc
open Go.Proofs
structure BLeastQ(n:Net)(d:Xa)(i:Nat)(R:Curve->Except Int eK)(b:eh):Prop where
 ends:∃a c,re n d i=some a/\re n (fc n d) i=some c/\b.1.value<=a/\b.1.value<=c/\((b.1.meth=1/\b.1.value=a)\/(b.1.meth=3/\b.1.value=c)\/(b.1.meth=2/\ic n d i b.1.choice/\Pe n d i b.1.choice R b.2 b.1.value))
 found:b.1.found=true
 le:∀c,ic n d i c->∀y ps,uS (fQ n d i c) R=.ok (y,ps)->b.1.value<=y
theorem HE{x:Except Int eK}{v:Int}(h:cB x=.ok v):J5 x v=true:=by
 unfold cB at h;unfold J5;rcases x with e|⟨b,w,t⟩
 .cases h
 .dsimp only at h⊢;split at h
  .cases h
  .rename_i g;cases h;rcases b with _|_
   .simp
   .exact absurd (.inl rfl) g
theorem HF{n:Net}{d:Xa}(A:fm n d=true)(w:n.lines.length<=2){i:Nat}(m:i<n.flows.length){D:Nat->Curve->Except Int eK}{R:Curve->Except Int eK}(hD:DelX (n.flows.getD i default).con (D i))(hR:DelX (n.flows.getD i default).con R):BLeastQ n d i R (d7 n d (fc n d) D i):=by
 obtain⟨⟨⟨h,G⟩,B⟩,_⟩:=bz.1 A;have p:FlowOk n.lines (n.flows.getD i default):=h.flow _ (by simp[m]);have hne:=p.ne;have hr:(n.flows.getD i default).route.length=1\/(n.flows.getD i default).route.length=2:=by
  have:=kC p w;omega
 have F:=mJ A m;have s:=λ{c z ps}=>uZ (n:=n) (d:=d) (i:=i) hr (λk hk=>uY (λx hx=>(F x hx).1) hk) (c:=c) (z:=z) (ps:=ps);obtain⟨⟨a,O⟩,c,o⟩:=Fw A m;have N:∀{c z ps},(c,z,ps)∈pf n d i (n.flows.getD i default).route.length [] c0 []->cB (D i z)=cB (R z):=λb=>tf (hD.same hR (hU h G B m (s.1 b).1.1 (s.1 b).2).kind);unfold d7;rw[O,o];obtain⟨g,q⟩:∃g,g=Ki (some a) 1 (rE,[]):=⟨_,rfl⟩;rw[<-q];have u:g=(⟨true,a,1,[]⟩,[]):=by
  rw[q];show cC (rE,[]) ⟨true,a,1,[]⟩ []=_;unfold cC;exact if_pos (.inl rfl)
 obtain⟨C,E⟩:∃C,C=fk n d i (D i) (n.flows.getD i default).route.length [] c0 [] g:=⟨_,rfl⟩;rw[<-E];obtain⟨t1,t2,t⟩:=yR (D i) (pf n d i (n.flows.getD i default).route.length [] c0 []) g;have E:C=(pf n d i (n.flows.getD i default).route.length [] c0 []).foldl (iC (D i)) g:=E;rw[<-E]at t1 t2 t;obtain⟨f2,S⟩:=t1 (by rw[u]);obtain⟨g1,L⟩:=qY C ⟨true,c,3,[]⟩ [];have L:=L f2;have eE:Ki (some c) 3 C=cC C ⟨true,c,3,[]⟩ []:=rfl;rw[eE];have la:C.1.value<=a:=by rw[u]at S;exact S
 refine⟨⟨a,c,O,o,Z,g1,?_⟩,hZ _ _ _ rfl,λl hl y ps H=>?_⟩
 .rcases qZ C ⟨true,c,3,[]⟩ []with e|e
  .rw[e];exact .inr (.inl ⟨rfl,rfl⟩)
  .rw[e];rcases t with t|⟨⟨l,z,ps⟩,b,v,f,t⟩
   .rw[t,u];exact .inl ⟨rfl,rfl⟩
   .rw[t];have f:cB (D i z)=.ok v:=f;obtain⟨K,Q⟩:=s.1 b;rw[N b]at f;obtain⟨I,r,V,W,X,m4,_⟩:=(hU h G B m K.1 Q).hops;refine .inr (.inr ⟨rfl,K,I,r,V,W,by rw[<-X];exact HE f,λj P=>?_⟩);have q:=(jf V).1;have E:=W.len;have e3:=K.1;simp only[List.length_cons]at q;have P:j<=ps.length:=P;rcases(Z:j=0\/j=ps.length)with rfl|rfl
    .exact m4
    .show ar (fj I (ps.take ps.length));rw[List.take_length,<-X];exact(hU h G B m K.1 Q).kind
 .rcases hp:fQ n d i l with e|⟨z,qs⟩
  .rw[hp]at H;cases H
  .rw[hp]at H;have b:=s.2 ⟨hl,hp⟩;unfold uS at H;dsimp only at H;rcases f:cB (R z)with e|v
   .rw[f]at H;cases H
   .rw[f]at H;cases H;have:=(t2 _ b y (by rw[<-f];exact N b)).2;omega
theorem HG{n:Net}{d:Xa}(h:NetOk n)(g:NamesOk n)(b:ShapeOk n d){i:Nat}(f:i<n.flows.length){c:List Int}(a:c.length=(n.flows.getD i default).route.length){R:Curve->Except Int eK}(j:RDelF (n.flows.getD i default).con R){e:Int}(H:uS (fQ n d i c) R=.error e):e≠0:=by
 unfold uS at H;rcases hp:fQ n d i c with E|⟨z,ps⟩
 .rw[hp]at H;cases H;exact A7 h g b f a hp
 .rw[hp]at H;dsimp only at H;rcases hb:cB (R z)with E|v
  .rw[hb]at H;cases H;exact Fd (λe H=>j.err z e (hU h g b f a hp).kind H) hb
  .rw[hb]at H;cases H
theorem AH(a:Curve)(H:Gd a):∃R,DelX a R/\RDelF a R:=by
 obtain⟨R,h,s⟩:=HD a H;exact⟨R,h,s,λz e c b=>by rw[h.err c b];decide⟩
theorem F4{n:Net}{d:Xa}(h:NetOk n)(b:ShapeOk n d){i:Nat}(e:i<n.flows.length){c:List Int}(a:ic n d i c):∀x∈c,ah x:=λx j=>by
 obtain⟨k,H,rfl⟩:=List.mem_iff_getElem.1 j;obtain⟨l,f,g⟩:=a.2 k H;have:=(rd h b e (by rw[<-a.1];exact H) f).2 _ g;rw[show c.getD k 0=c[k] by simp[H]]at this;unfold ah;omega
end Go.Nc