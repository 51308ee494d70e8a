/- Parts. -/
import Derived.Test.YtbdkgpcdkalfdaaGreatNdBDA
import Derived.Test.YtbdkgpcdkalfdaaGreatNdCXB
namespace Go.Nc
open Go.Proofs.Tryz
open Go.Proofs
set_option maxHeartbeats 8000000
noncomputable def KC(a b:Curve):Except Int Curve:=match decX a b with
 |.error e=>.error e
 |.ok z=>xy z
theorem EJ{a b y:Curve}(d:NrmC a)(h:KC a b=.ok y):y=au 0\/NrmC y/\y.fn 0=0:=by
 unfold KC at h;split at h
 .cases h
 .rename_i z e;rcases E9 (uF d e) h with H|⟨H,c⟩
  .exact .inl H
  .exact .inr ⟨H,by rw[c];rfl⟩
noncomputable def kz(n:Net)(d:Xa)(i h:Nat)(a:Except Int Curve):Except Int Curve:=match a with
 |.error e=>.error e
 |.ok a=>match bq n d i h 1 with
  |.error e=>.error e
  |.ok b=>match n4 b ((n.flows.getD i default).most-1)with
   |.error e=>.error e
   |.ok c=>KC a c
noncomputable def nm(n:Net)(d:Xa)(i:Nat):Nat->Except Int Curve
 |0=>hU (n.flows.getD i default) (cA d (n.flows.getD i default) 0)
 |h+1=>match hU (n.flows.getD i default) (cA d (n.flows.getD i default) (h+1))with
  |.error e=>.error e
  |.ok a=>match kz n d i h (nm n d i h)with
   |.error _=>.ok a
   |.ok o=>match mu a o with
    |.error _=>.ok a
    |.ok m=>.ok m
theorem oB{n:Net}{d:Xa}(h:NetOk n)(c:ShapeOk n d){i k:Nat}(a:i<n.flows.length)(f:k<(n.flows.getD i default).route.length){z:Curve}(e:hU (n.flows.getD i default) (cA d (n.flows.getD i default) k)=.ok z):NrmC z/\z.fn 0=0:=by
 have H:FlowOk n.lines (n.flows.getD i default):=h.flow _ (by simp[a]);have q:=(hZ n d h c i k a f).1;rw[e]at q;obtain⟨v,j,_,_,A,_⟩:=q;refine⟨?_,A⟩;obtain⟨o,⟨l,hb⟩,_⟩:=vF n d h c i k a f;have hb:=hb v (l.trans j);rw[j]at e;have g:Gd (n.flows.getD i default).con:=⟨H.valid,H.con_fin⟩;have b:=ou (n.flows.getD i default).con (v:=v) Z;have e:gR (n.flows.getD i default).con v=.ok z:=e;rw[e]at b;exact(fE (b g) λs t m=>kE g v m).1
theorem kR{n:Net}{d:Xa}(h:NetOk n)(u:NamesOk n)(j:ShapeOk n d){i:Nat}(l:i<n.flows.length):∀{k:Nat},k<(n.flows.getD i default).route.length->∀{z:Curve},nm n d i k=.ok z->NrmC z/\z.fn 0=0
 |0,hk,z,e=>oB h j l hk e
 |k+1,hk,z,e=>by
  unfold nm at e;split at e
  .cases e
  .rename_i a s;have c:=oB h j l hk s;split at e
   .cases e;exact c
   .rename_i o H;have b:o=au 0\/NrmC o/\o.fn 0=0:=by
     unfold kz at H;split at H
     .cases H
     .rename_i A g;have p:=kR h u j l (k:=k) Z g;split at H
      .cases H
      .split at H
       .cases H
       .exact EJ p.1 H
    split at e
    .cases e;exact c
    .rename_i m t;cases e;rcases Jd c.1 (b.imp id And.left) t with⟨q,⟨_,f⟩|⟨f,r⟩⟩
     .rw[f];exact c
     .refine⟨q,?_⟩;rw[r];unfold iR;rw[c.2];rcases b with b|b
      .exact absurd b f.not_wait
      .rw[b.2];rfl
theorem sW{n:Net}{d:Xa}(h:NetOk n)(c:ShapeOk n d){i:Nat}(f:i<n.flows.length){k:Nat}(a:k<(n.flows.getD i default).route.length){e:Int}(H:nm n d i k=.error e):LowE e:=by
 have key:∀{k:Nat},k<(n.flows.getD i default).route.length->∀{e:Int},hU (n.flows.getD i default) (cA d (n.flows.getD i default) k)=.error e->LowE e:=λ{k} a {e} H=>by
  have q:=(hZ n d h c i k f a).1;rw[H]at q;rcases q with q|q<;>(unfold LowE;omega)
 rcases k with _|k
 .exact key a H
 .unfold nm at H;split at H
  .rename_i E b;cases H;exact key a b
  .split at H
   .cases H
   .split at H<;>cases H
noncomputable def kS(n:Net)(d:Xa)(L:Int)(s:Curve)(j:Int):Except Int Curve:=match nm n d j.toNat (bG L (n.flows.getD j.toNat default).route 0).toNat with
 |.error e=>.error e
 |.ok c=>y1 s c
noncomputable def Kn(n:Net)(d:Xa)(L c:Int):Except Int Curve:=dk (kS n d L) (ao 0) (a8 n L c)
noncomputable def i7(n:Net)(d:Xa)(L:Int):Nat->Except Int (List Curve)
 |0=>.ok []
 |k+1=>match i7 n d L k with
  |.error e=>.error e
  |.ok l=>match Kn n d L k with
   |.error e=>.error e
   |.ok c=>.ok (l++[c])
theorem sX(n:Net)(d:Xa)(L:Int)(k:Nat):i7 n d L (k+1)=match i7 n d L k with
  |.error e=>.error e
  |.ok l=>match Kn n d L k with
   |.error e=>.error e
   |.ok c=>.ok (l++[c]):=rfl
theorem mq{n:Net}{d:Xa}{L:Int}{e:Int}:∀{m k:Nat},i7 n d L k=.error e->i7 n d L (k+m)=.error e
 |0,_,h=>h
 |m+1,k,h=>by
  show i7 n d L (k+m+1)=_;unfold i7;rw[mq (m:=m) h]
theorem oC{n:Net}{d:Xa}{L:Int}:∀{k:Nat} {l:List Curve},i7 n d L k=.ok l->l.length=k/\∀i,i<k->Kn n d L i=.ok (l.getD i c0)
 |0,l,h=>by
  unfold i7 at h;injection h with h;subst h;exact⟨rfl,ψ⟩
 |k+1,l,h=>by
  unfold i7 at h;split at h
  .cases h
  .rename_i m g;split at h
   .cases h
   .rename_i c f;injection h with h;subst h;obtain⟨H,b⟩:=oC g;refine⟨by simp[H],λi j=>?_⟩;rcases ξ i k with a|a
    .rw[b i a];simp[List.getElem?_append,H,a]
    .have e:i=k:=Z;subst e;rw[f,<-H];simp
theorem EK{n:Net}{d:Xa}(h:NetOk n)(a:ShapeOk n d){L:Int}{s:Curve}{j:Nat}(b:j<n.flows.length)(g:0<=bG L (n.flows.getD j default).route 0){e:Int}(H:kS n d L s j=.error e):LowE e:=by
 have f:=dI (x:=L) (l:=(n.flows.getD j default).route) (Int.le_refl 0);unfold kS at H;rw[β]at H;split at H
 .rename_i E hb;cases H;exact sW h a b Z hb
 .rename_i c hb;have:=sx s c;rw[H]at this;exact lO this
theorem EL{n:Net}{d:Xa}(h:NetOk n)(t:NamesOk n)(k:ShapeOk n d){L c:Int}:(∀z,Kn n d L c=.ok z->Gd z)/\∀e,Kn n d L c=.error e->LowE e:=by
 have key:∀(V:List Int) (s:Curve),Gd s->(∀x∈V,x∈a8 n L c)->(∀z,dk (kS n d L) s V=.ok z->Gd z)/\∀e,dk (kS n d L) s V=.error e->LowE e:=by
  intro V;induction V with
  |nil=>intro s b _;exact⟨λz h=>(by cases h;exact b),λe h=>(by cases h)⟩
  |cons j r ih=>
   intro s b i;obtain⟨⟨m,u,g⟩,_⟩:=cD (i j ν);obtain⟨j,rfl⟩:=ζ m;rw[β]at g;have q:=dI (x:=L) (l:=(n.flows.getD j default).route) (Int.le_refl 0);unfold dk;rcases hst:kS n d L s j with e|s'
   .refine⟨λz h=>(by cases h),λE H=>?_⟩;cases H;exact EK h k Z g hst
   .refine ih s' ?_ λx f=>i x (by simp[f]);unfold kS at hst;rw[β]at hst;split at hst
    .cases hst
    .rename_i a p;have ga:=(kR h t k Z Z p).1.gd;have o:SumE s a (.ok s'):=hst▸sy s a;exact(o.gd b ga).1
 exact key _ _ (aR η) λx f=>f
theorem wP{n:Net}{d:Xa}(h:NetOk n)(a:NamesOk n)(H:ShapeOk n d){L:Int}{e:Int}:∀{k:Nat},i7 n d L k=.error e->LowE e
 |0,he=>by cases he
 |k+1,he=>by
  unfold i7 at he;split at he
  .rename_i E b;cases he;exact wP h a H b
  .split at he
   .rename_i E c;cases he;exact(EL h a H).2 _ c
   .cases he
def ru(x:Except Int eK)(v:Int):Int:=match x with
 |.ok (false,w,_)=>if w<v then w else v
 |_=>v
noncomputable def dO(n:Net)(d:Xa)(L C:Nat):Int :=
 if a8 n L C=[]then 0 else match i7 n d L (n.lines.getD L default).classes.toNat with
  |.error _=>(d.getD L []).getD C 0
  |.ok cs=>ru (dc (n.lines.getD L default) C cs (dC n L)).1 ((d.getD L []).getD C 0)
noncomputable def fc(n:Net)(d:Xa):Xa:=rp n (dO n d)
theorem yC{n:Net}{d:Xa}(h:NetOk n)(e:NamesOk n)(a:ShapeOk n d){L:Nat}(f:L<n.lines.length){k:Nat}(g:(k:Int)<(n.lines.getD L default).classes){cs:List Curve}(H:i7 n d L (n.lines.getD L default).classes.toNat=.ok cs) :
  SrvOk (n.lines.getD L default) k cs (dC n L)/\FinC (cs.getD k c0):=by
 have b:=h.line (n.lines.getD L default) (by rw[γ,υ Z];exact List.getElem_mem _);obtain⟨S,s⟩:=zF h (L:=(L:Int)) ⟨Z,Z⟩;rw[β]at s;obtain⟨C,c⟩:=oC H;exact⟨⟨b,Z,Z,s,S⟩,((EL h e a).1 _ (c k Z)).2⟩
theorem Ng(a b:Curve)(d:NrmC a)(hb:NrmC b)(H:b.fn 0=0):q0e 201 [a.av,b.av] (ax (decX a b)):=by
 have p:=GW a b d hb H;by_cases h:bj a b<=120
 .rw[if_pos h]at p;obtain⟨x,f,P⟩:=OU a b d hb H h;rw[<-f];rcases x with e|c;all_goals
   refine' db func201 ntmps201 results201
   all_goals exact Θ
 .rw[if_neg h]at p;rw[show decX a b=.error 3 from if_neg h];refine' db func201 ntmps201 results201
  all_goals exact Θ
theorem Aq:WfC cInf:=⟨η,η,η,λv h=>.inr (List.mem_singleton.1 h),λ_=>rfl⟩
theorem qK:cInf.valid=true:=rfl
theorem EN:cInf.fn 1=cx:=by
 show cInf.at ((1:Nat):Int)=cx;unfold Curve.at;rw[if_neg η,show cInf.vals.getD (((1:Nat):Int)-((((1:Nat):Int)-cInf.vals.length).tdiv cInf.per+1)*cInf.per).toNat 0=cx from rfl,if_pos rfl]
theorem Nt:q0e 200 [cInf.av,J 0] (ax (.ok (au 0))):=by
 have p:=BK cInf qK 0 η rfl (λt H=>Z);have p:q0e 88 [cInf.av] (ax (.ok cInf)):=p;have a:=CK (c:=cInf) (x:=.ok cInf) ⟨qK,Aq,λh=>absurd rfl (h cx (List.mem_singleton.2 rfl))⟩ p 0 0 1048576 η η;have b:=aN cInf Aq;obtain ⟨_,rfl,P⟩:=sM 249 (.box cInf.cells) (.box [J 0]) rfl rfl rfl rfl (bc cInf 0) 1 1 1 0 η η (fun t H=>by
  obtain rfl:t=0:=Z;exact⟨Int.le_refl 0,(by decide:(0:Int)<=1073741824)⟩) (by show cInf.fn 1=cx;exact EN) (λt H=>vE cInf Aq 0 t η Z)
 have e:(⟨(List.range (1+1)).map (bc cInf 0),1,0⟩:Curve)=au 0:=by
  show(⟨[bc cInf 0 0,bc cInf 0 1],1,0⟩:Curve)=_;rw[show bc cInf 0 0=0 from rfl,show bc cInf 0 1=cx from EN];rfl
 rw[e]at P;refine ee func200 ntmps200 results200 λ_ _ _=>?_;repeat'(first|(refine aT [4,5,7] [4] [(901,6),(902,3)] [(6,.lptr 901 0),(3,.lptr 902 0)] [(901,some (.box cInf.cells)),(902,some (.box [J 0]))] ⟨⟨rfl,rfl⟩,bt,bt⟩ ?_;conv=>whnf)|refine' ak|(refine bA P ⟨rfl,rfl,trivial⟩ ⟨trivial,trivial,trivial⟩ ?_;conv=>whnf))
 all_goals first|exact Θ|(unfold ah;show _<=(0:Int)/\(0:Int)<=_;omega)|exact ε
theorem Nu(z:Curve)(h:z=cInf\/NrmC z):q0e 200 [z.av,J 0] (ax (xy z)):=by
 rcases h with rfl|h
 .rw[show xy cInf=.ok (au 0)from if_pos rfl];exact Nt
 .obtain⟨x,⟨_,H⟩,p⟩:=jm z 0 η;have e:x=xy z:=by
   unfold xy;rw[if_neg (E7 h)];exact(H h.gd).eq
  rw[<-e];exact p
open Classical in
theorem HU(a:Curve):mu a (au 0)=.ok a:=by
 unfold mu;rw[if_pos rfl]
theorem EO(a:Curve)(h:NrmC a)(l:a.fn 0=0):∃x,x=(.ok a:Except Int Curve)/\q0e 202 [a.av,(au 0).av,.fn 203 [],.fn 204 []] (ax x):=by
 obtain⟨b,e⟩:∃b,b=au 0:=⟨_,rfl⟩;have k:a6 a:=.inl h;have K:a6 b:=e▸ .inr ⟨0,η,rfl⟩;have p:=Ao a b k K;have m:=k.per;have n:bj a b=a.per.toNat:=by rw[e];exact cS a 0
 rw[if_pos Z]at p;have s:=aN a k.wf;have S:=aN b K.wf;have s:q0e 91 [a.av] (J (a.st:Int)):=s;have S:q0e 91 [b.av] (J (b.st:Int)):=S;have b1:=ba a (by have:=k.len;omega);have B:=ba b (by have:=K.len;omega);rw[h.finB]at b1;rw[show Nc.finB b=false by rw[e];exact dM]at B;have L:=k.st_max;have r:b.st=1:=by rw[e];exact d9 0
 have q:=k.wf.inc;obtain⟨fr,j⟩:∃fr,fr=max a.st b.st:=⟨_,rfl⟩;have E:max (a.st:Int) b.st=(fr:Nat):=Z;have g:∀t:Nat,t<=1000000->min (a.fn t) (b.fn t)=a.fn t:=λt c=>by
  have o:=h.lt (t:=t) c;rw[show b.fn t=wF 0 t by rw[e,ce η]];unfold wF;split
  .obtain rfl:t=0:=Z;rw[l];rfl
  .omega
 obtain⟨x,⟨_,_,d⟩,P⟩:=ot 252 (Kl a b) rfl a.fn fr a.per.toNat a.inc Z Z (λt c=>.inl (by have:=h.bd t;omega)) (λt c=>by rw[<-g t Z];exact wO a b k.wf K.wf t Z);have d:=d (λt c=>by have:=h.lt (t:=t) Z;omega) (λt c=>h.gd.rep.2 t (by show a.st<=t;omega));obtain rfl:=d.unique h.can;rw[<-m.2.2]at P;have i:=wO a b k.wf K.wf fr Z;rw[g fr Z]at i;have f:=h.lt (t:=fr) Z;have H:¬a.fn fr=4611686018427387904:=by unfold cx at f;omega
 rw[<-e];refine dp func202 ntmps202 results202 ?_;repeat'(first|(refine M H λhb=>?_;conv=>whnf)|(refine az [3,6,8,10,11,12] [6,8] [] [(14,.fn 252 [.lptr 6 0,.lptr 10 0,.lptr 11 0])] [(10,some (.box a.cells)),(11,some (.box b.cells))] ⟨⟨rfl,rfl⟩,bt,bt⟩ ?_;(conv=>whnf);(refine a7 6 rfl rfl rfl ?_ ?_ ?_;(solve|try refine' frzZ);(solve|try refine' frzZ));(conv=>whnf);(refine a7 10 rfl rfl rfl ?_ ?_ ?_;(solve|try refine' frzZ);(solve|try refine' frzZ));(conv=>whnf);(refine a7 11 rfl rfl rfl ?_ ?_ ?_;(solve|try refine' frzZ);(solve|try refine' frzZ));(conv=>whnf))|(refine fg ?_;conv=>whnf)|(refine aa (λhb=>?_) (λhb=>?_)<;>conv=>whnf)|(refine aq (λhb=>?_) (λhb=>?_)<;>conv=>whnf)|(refine Side.mk ?_ ?_;rotate_left;conv=>whnf)|(refine SubS.mk ?_ ?_;rotate_left;conv=>whnf)|(refine VCells.mk ⟨_,rfl,?_⟩;conv=>whnf)|(refine DrawOk.mk ⟨rfl,rfl⟩ ?_;conv=>whnf)|(refine am (p) ?_;conv=>whnf)|(refine am (s) ?_;conv=>whnf)|(refine am (S) ?_;conv=>whnf)|(refine am (b1) ?_;conv=>whnf)|(refine am (B) ?_;conv=>whnf)|(refine am (i) ?_;conv=>whnf)|(refine am (P) ?_;conv=>whnf)|(rw[E];conv=>whnf)|(refine aA (λhb=>?_) (λhb=>?_)<;>conv=>whnf))
 all_goals try exact bs
 exact ag ⟨.ok a,rfl,rfl⟩
theorem M5(a b:Curve)(H:NrmC a)(d:a.fn 0=0)(hb:b=au 0\/NrmC b):q0e 145 [a.av,b.av] (ax (mu a b)):=by
 have h:∃x,x=mu a b/\q0e 202 [a.av,b.av,.fn 203 [],.fn 204 []] (ax x):=by
  rcases hb with rfl|hb
  .rw[HU];exact EO a H d
  .exact EI a b H hb
 obtain⟨x,f,p⟩:=h;rw[<-f];rcases x with e|c;all_goals
  refine' db func145 ntmps145 results145
  all_goals exact Θ
theorem kT{n:Net}{d:Xa}(h:NetOk n)(e:NamesOk n)(a:ShapeOk n d){i k:Nat}(b:i<n.flows.length)(c:k<(n.flows.getD i default).route.length){z:Curve}(H:bq n d i k 1=.ok z):NrmC z:=by
 unfold bq at H;rw[if_neg η,if_pos η]at H;exact wH h e a b c H
theorem OQ{c z:Curve}(H:NrmC c){m:Int}(h:n4 c m=.ok z):NrmC z/\z.fn 0=0:=by
 rw[sK H]at h;obtain⟨a,b⟩:=fE (kP h) (qC (λs t d=>H.mono d) m);exact⟨a,by rw[b];rfl⟩
theorem mr{n:Net}{d:Xa}(h:NetOk n)(f:NamesOk n)(H:ShapeOk n d){i k:Nat}(a:i<n.flows.length)(b:k<(n.flows.getD i default).route.length){c e:Int}(g:bq n d i k c=.error e):e≠0:=(nj h f H a b).2 _ g
theorem EP(n:Net)(d:Xa)(h:NetOk n)(j:NamesOk n)(f:ShapeOk n d)(i:Nat)(a:i<n.flows.length)(k:Nat)(g:k<(n.flows.getD i default).route.length)(o:q0e 76 [n.av,aF d,J i,J k] (ax (nm n d i k))) :
  q0e 144 [n.av,aF d,J i,J k] (ax (kz n d i k (nm n d i k))):=by
 have s:=h.flen;have l:FlowOk n.lines (n.flows.getD i default):=h.flow _ (by simp[a]);have t:=l.sizes;have p:=qz n d h j f i k a g 1 ε;unfold kz;rcases hb:nm n d i k with e|A
 .have H:=bn (sW h f a g hb);rw[hb]at o;refine' db func144 ntmps144 results144
  all_goals first|exact absurd ‹_› H|exact Θ|omega
 .have Q := kR h j f a g hb;rw[hb]at o;dsimp only;rcases hc:bq n d i k 1 with e|b
  .have H:=mr h j f a g hc;rw[hc]at p;refine' db func144 ntmps144 results144
   all_goals first|exact absurd ‹_› H|exact Θ|omega
  .have q:=kT h j f a g hc;have P:=HO b (.inl q) (n.flows.getD i default).most Z;rw[hc]at p;dsimp only;rcases hx:n4 b ((n.flows.getD i default).most-1)with e|c
   .have H:=nr (.inl q) hx;subst H;rw[hx]at P;refine' db func144 ntmps144 results144
    all_goals first|exact Θ|omega
   .have r:=OQ q hx;have m:=Ng A c Q.1 r.1 r.2;rw[hx]at P;unfold KC;dsimp only;rcases hx2:decX A c with e|z
    .have H:=yB hx2;subst H;rw[hx2]at m;refine' db func144 ntmps144 results144
     all_goals first|exact Θ|omega
    .have u:=Nu z (uF Q.1 hx2);rw[hx2]at m;dsimp only;rcases hx3:xy z with e|y;all_goals
      rw[hx3]at u;refine' db func144 ntmps144 results144
      all_goals first|exact Θ|omega
theorem Ji{n:Net}{d:Xa}(h:NetOk n)(j:NamesOk n)(b:ShapeOk n d){i:Nat}(c:i<n.flows.length){k:Nat}(f:k<(n.flows.getD i default).route.length){e:Int}(H:kz n d i k (nm n d i k)=.error e):e≠0:=by
 unfold kz at H;split at H
 .rename_i E hb;cases H;exact bn (sW h b c f hb)
 .split at H
  .rename_i a;cases H;exact mr h j b c f a
  .rename_i a;split at H
   .rename_i g;cases H;rw[nr (.inl (kT h j b c f a)) g];decide
   .unfold KC at H;split at H
    .rename_i g;cases H;rw[yB g];decide
    .rw[EA H];decide
theorem GX{n:Net}{d:Xa}(h:NetOk n)(g:NamesOk n)(c:ShapeOk n d){i:Nat}(e:i<n.flows.length){k:Nat}(f:k<(n.flows.getD i default).route.length){o:Curve}(H:kz n d i k (nm n d i k)=.ok o):o=au 0\/NrmC o:=by
 unfold kz at H;split at H
 .cases H
 .rename_i A a;have b:=kR h g c e f a;split at H
  .cases H
  .split at H
   .cases H
   .exact(EJ b.1 H).imp id And.left
theorem qL(n:Net)(d:Xa)(h:NetOk n)(g:NamesOk n)(b:ShapeOk n d)(i:Nat)(H:i<n.flows.length):∀k:Nat,k<(n.flows.getD i default).route.length->
  q0e 76 [n.av,aF d,J i,J k] (ax (nm n d i k))
 |0,hk=>by
  have p:=(hZ n d h b i 0 H hk).2;show CallSpec _ _ _ _ (ax (hU (n.flows.getD i default) (cA d (n.flows.getD i default) 0))) [];rcases hx:hU (n.flows.getD i default) (cA d (n.flows.getD i default) 0)with e|a;all_goals
   rw[hx]at p;refine' db func76 ntmps76 results76
   all_goals first|exact Θ|omega|(exfalso;omega)
 |k+1,hk=>by
  have l:=(h.flow (n.flows.getD i default) (by simp[H])).ne;have p:=(hZ n d h b i (k+1) H hk).2;have P:=EP n d h g b i H k Z (qL n d h g b i H k Z);have E:((k+1:Nat):Int)-1=(k:Nat):=Z;have c:¬((k+1:Nat):Int)=0:=Z;rw[<-E]at P;unfold nm;rcases hx:hU (n.flows.getD i default) (cA d (n.flows.getD i default) (k+1))with e|a
  .have f:e≠0:=by
    have q:=(hZ n d h b i (k+1) H hk).1;rw[hx]at q;rcases q with q|q<;>omega
   rw[hx]at p;refine' db func76 ntmps76 results76
   all_goals first|exact absurd ‹_› f|exact Θ|omega|(exfalso;omega)
  .have Q:=oB h b H hk hx;rw[hx]at p;dsimp only;rcases hl:kz n d i k (nm n d i k)with e|o
   .have f:=Ji h g b H Z hl;rw[hl]at P;refine' db func76 ntmps76 results76
    all_goals first|exact absurd ‹_› c|exact absurd ‹_› f|exact Θ|exact bs
   .have j:=M5 a o Q.1 Q.2 (GX h g b H Z hl);rw[hl]at P;dsimp only;rcases hm:mu a o with e|m
    .have f:=EB hm;subst f;rw[hm]at j;refine' db func76 ntmps76 results76
     all_goals first|exact absurd ‹_› c|exact Θ|exact bs
    .rw[hm]at j;refine' db func76 ntmps76 results76
     all_goals first|exact absurd ‹_› c|exact Θ|exact bs
theorem MI(n:Net)(d:Xa)(h:NetOk n)(hw:NamesOk n)(S:ShapeOk n d)(L:Nat)(hL:L<n.lines.length) :
  ∃x,x=i7 n d L (n.lines.getD L default).classes.toNat/\q0e 130 [n.av,aF d,J L] (Kk x):=by
 have hfl:=h.flen;have hll:=h.len;have hcl:=(h.line (n.lines.getD L default) (by rw[γ,υ hL];exact List.getElem_mem _)).cls;obtain⟨C,N⟩:=ζ (Z:0<=(n.lines.getD L default).classes);rw[N,β];refine dp func130 ntmps130 results130 ?_ (hco:=λx=>⟨tQ x _,by simp,rfl⟩);repeat'(first|refine' aj|fail)
 all_goals try exact ariB
 refine⟨aV (λ_ _ _=>bQ 8 100 3 45 rfl rfl rfl) (ae (ι:={p:Nat×List Curve//p.1<=C/\p.2.length=p.1/\i7 n d L p.1=.ok p.2}) [1,2,3] [3] [] ⟨(0,[]),χ _,rfl,rfl⟩ (λ⟨(j,_),_⟩=>C-j) (λ⟨(j,l),_⟩=>[(20,J C),(8,.osl 100 l.length),(21,J j)]) (λ⟨(_,l),_⟩=>[(100,some (.arr l.length 3 (ey Curve.cells c0 l) 45))]) ?_ ?_).good⟩
 .refine⟨⟨rfl,rfl⟩,?_,?_⟩;all_goals((refine' subP)<;>first|exact fl rfl (ψ)|exact Γ N|exact bt)
 .rintro⟨⟨j,l⟩,hj,I,G⟩;dsimp only at hj I G;conv=>whnf
  by_cases o:(j:Int)<C
  .have p1 := cW n L j Z (cZ h);have K:=da n L j;have g:=sX n d L j;rw[G]at g;dsimp only at g;obtain⟨V,u⟩:∃V,V=a8 n L j:=⟨_,rfl⟩;have r:∀k,k<V.length->∃f:Nat,V.getD k 0=(f:Int)/\f<n.flows.length/\0<=bG L (n.flows.getD f default).route 0:=λk F=>by
    obtain⟨⟨h1,h2,y⟩,_⟩:=cD (u▸a9 F);obtain⟨f,E⟩:=ζ h1;rw[E]at h2 y;exact⟨f,by rw[u];exact E,Z,by rw[β]at y;exact y⟩
   rw[<-u]at p1 K;obtain⟨R,O⟩:∃R,R=dk (kS n d L) (ao 0) V:=⟨_,rfl⟩;have eB:Kn n d L j=R:=by rw[O,u];rfl
   rw[eB]at g;repeat'(first|(refine az [1,2,3,8,9,20,21,29,30,31] [3,100] [] [(10,.lptr 10 0)] [(10,some (.box [.osl 24 1,J 1,J 0])),(24,some (.arr 1 1 (λ_=>[J 0]) 3))] ⟨⟨rfl,rfl⟩,?_,?_⟩ ?_;(solve|((refine' subP)<;>first|exact fl rfl (bV rfl)|exact bt));(solve|((refine' subP)<;>first|exact fl rfl (bV rfl)|exact bt));(conv=>whnf);(refine a7 24 rfl rfl (λ_ _=>rfl) ?_ ?_ ?_;(solve|try refine' frzZ);(solve|try refine' frzZ));(conv=>whnf))|(refine U o λhb=>?_;conv=>whnf)|refine' aj|fail)
   all_goals try exact ariB
   refine ae (ι:={p:Nat×Curve//p.1<=V.length/\dk (kS n d L) p.2 (V.drop p.1)=R}) [1,2,3,8,9,20,21,29] [3,100] [] ⟨(0,ao 0),χ _,O.symm⟩ (λ⟨(k,_),_⟩=>V.length-k) (λ⟨(k,_),_⟩=>[(10,.lptr 10 0),(30,J V.length),(31,J k)]) (λ⟨(_,s),_⟩=>[(10,some (.box s.cells))]) ?_ ?_
   .refine⟨⟨rfl,rfl⟩,?_,?_⟩;all_goals((refine' subP)<;>first|(show ObLe (.box [.isl 1 1 λ_=>[J 0],J 1,J 0]) (.box [.isl 1 1 λi=>[J (([0]:List Int).getD i 0)],J 1,J 0]);exact ObLe.box (.cons (kd rfl λi D=>(by obtain rfl:i=0:=Z;rfl)) (.cons Θ (.cons Θ .nil))))|exact bt)
   .rintro⟨⟨k,s⟩,F,a⟩;conv=>whnf
    dsimp only at F a;by_cases b:(k:Int)<V.length
    .obtain⟨f,E,v,hH⟩:=r k Z;have w:V.getD (k:Int).toNat 0=f:=E;have B:FlowOk n.lines (n.flows.getD f default):=h.flow _ (by simp[v]);have hne:=B.ne;have hlt:=dI (x:=(L:Int)) (l:=(n.flows.getD f default).route) (Int.le_refl 0);obtain⟨q,Q⟩:=ζ hH;have W:=l5 n f L v Z;have P:=qL n d h hw S f v q Z;rw[Q]at W;have eS:kS n d L s f=match nm n d f q with |.error e=>.error e|.ok c=>y1 s c:=by
      unfold kS;rw[β,Q,β];first|done|(rcases nm n d f q<;>rfl)
     rw[bS (l:=V) (j:=k) Z,E]at a;unfold dk at a;rw[eS]at a;rw[<-w]at W P;rcases hb:nm n d f q with e|c
     .have A:=bn (sW h S v Z hb);rw[hb]at a P;have a:Except.error e=R:=a;rw[<-a]at g;have H:=mq (m:=C-(j+1)) g;rw[(Z:j+1+(C-(j+1))=C)]at H;repeat'(first|(refine U b λhb=>?_;conv=>whnf)|refine' aj|fail)
      all_goals try first|exact bs|(exfalso;omega)|exact absurd ‹_› A
      exact ag ⟨.error e,rfl,H.symm⟩
     .rw[hb]at a P;have X:=Ds s c;dsimp only at a;rcases hs:y1 s c with e|z
      .have q4:=sx s c;rw[hs]at q4 a X;have A:=bn (lO q4);have a:Except.error e=R:=a;rw[<-a]at g;have H:=mq (m:=C-(j+1)) g;rw[(Z:j+1+(C-(j+1))=C)]at H;repeat'(first|(refine U b λhb=>?_;conv=>whnf)|refine' aj|fail)
       all_goals try first|exact bs|(exfalso;omega)|exact absurd ‹_› A
       exact ag ⟨.error e,rfl,H.symm⟩
      .rw[hs]at a X;repeat'(first|(refine U b λhb=>?_;conv=>whnf)|(exact aI [] ⟨(k+1,z),κ,a⟩)|refine' aj|fail)
       all_goals try exact ariB
    .rw[List.drop_eq_nil_of_le Z]at a;have a:Except.ok s=R:=a;rw[<-a]at g;have t:(l++[s]).length=l.length+1:=by simp
     repeat'(first|(refine M b λhb=>?_;conv=>whnf)|refine' aj|fail)
     all_goals try first|exact bs|exact⟨π _,aL Z rfl⟩
     refine aQ [(100,61)] ⟨(j+1,l++[s]),κ,κ,g⟩ ⟨⟨rfl,rfl⟩,?_,?_⟩ κ
     .skip;all_goals((refine' subP)<;>first|exact fl t.symm λi D=>b9 Curve.cells c0 l s rfl i D _ (λe=>by subst e;simp;rfl)|exact bt)
     .skip;all_goals((refine' subP)<;>first|exact Ξ (congrArg (AV.osl 61) t.symm)|exact bt)
  .obtain rfl:j=C:=Z;have H:Except.ok l=i7 n d L j:=G.symm;repeat'(first|(refine M o λhb=>?_;conv=>whnf)|refine' aj|fail)
   all_goals try exact bs
   refine aW [6,7] [100] [] [] [] ⟨⟨rfl,rfl⟩,?_,?_⟩ (aX 100 rfl rfl (λ_ _=>rfl) ?_ ?_ (bO ?_))
   .skip;all_goals exact bt
   .skip;all_goals exact bt
   .all_goals try refine' frzZ
   .all_goals try refine' frzZ
   .conv=>whnf
    refine⟨.ok l,AvLe.tup (.cons (kd rfl λi D=>rfl) (.cons Θ .nil)),H⟩
end Go.Nc