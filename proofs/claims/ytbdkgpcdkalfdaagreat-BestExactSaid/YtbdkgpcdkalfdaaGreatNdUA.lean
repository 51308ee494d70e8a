/- Parts. -/
import Derived.Test.YtbdkgpcdkalfdaaGreatNdEB
import Derived.Test.YtbdkgpcdkalfdaaGreatNdJC
namespace Go.Nc
open Go.Proofs.Tryz
open Go.Proofs
set_option maxHeartbeats 8000000
theorem ID{ids:List Nat}{y:Nat}(h:y∈ids):gu ids (.yld y)=true:=by
 unfold gu;exact List.elem_eq_true_of_mem h
theorem nN{P:List Nat}{nt:Nat}{A:St}{e:List (Nat×AV)}{L:Xc}(ids:List Nat)(h:L.map (·.1)=ids)(b:∀i∈P,i∈ids)(a:∀p∈L,eU A.objs p.1=some p.2)(hcl:∀p∈L,eu ids p.2)(H:B3 A.env ids e):c9 P nt A ⟨e,bg L⟩:=by
 subst h;exact yi b a hcl H
section
variable {σ:Type} {ids:List Nat} {O:σ->Xc}
theorem Fam.ghost0(H:Fam ids O){nt:Nat}{A:St}{e:List (Nat×AV)}(s:σ)(b:∀p∈O s,eU A.objs p.1=some p.2)(a:B3 A.env ids e):c9 ids nt A ⟨e,bg (O s)⟩ :=
 nN ids (H.same s) (λ_ h=>h) b (H.cl s) a
theorem Fam.ghost1(a:Fam ids O){nt:Nat}{A:St}{e:List (Nat×AV)}(k:Nat)(ob:LObj)(s:σ)(d:eU A.objs k=some ob)(b:eu (k::ids) ob)(f:∀p∈O s,eU A.objs p.1=some p.2)(c:B3 A.env (k::ids) e):c9 ids nt A ⟨e,(k,some ob)::bg (O s)⟩:=by
 refine nN (L:=(k,ob)::O s) (k::ids) (by rw[List.map_cons,a.same]) (λi H=>by simp[H]) (λp h=>?_) (λp h=>?_) c
 .rcases List.mem_cons.1 h with rfl|h
  .exact d
  .exact f p h
 .rcases List.mem_cons.1 h with rfl|h
  .exact b
  .exact lU (λi H=>by simp[H]) (a.cl s p h)
theorem Fam.at1(a:Fam ids O){k:Nat}(b:k∉ids)(x:Option LObj)(s:σ){B:Xb}(h:∀p∈O s,eU B p.1=some p.2):∀p∈O s,eU ((k,x)::B) p.1=some p.2:=λp H=>by
 rw[gN,if_neg λe=>b (by rw[<-e,<-a.same s];exact List.mem_map.2 ⟨p,H,rfl⟩)];exact h p H
theorem Fam.at0(h:Fam ids O)(s:σ):∀p∈O s,eU (bg (O s)) p.1=some p.2:=λp H=>by rw[qi,h.lu s p H]
end
theorem DH{d:Type}{ids:List Nat}{O:d->Xc}(H:Fam ids O)(A:∀i∈ids,800<=i)(y:Nat)(B:y∈ids)(n:Net)(h:NetOk n)(I:Nat->Nat->d->Prop)(E:d->Prop)
  (f:∀(i c:Nat) (s:d),i<n.lines.length->(c:Int)<(n.lines.getD i default).classes->a8 n i c≠[]->I i c s->∃b outs,(∃s',outs=O s'/\(b=true->I i (c+1) s')/\(b=false->E s'))/\YSpec prog y [J i,J c] (O s) b outs)
  (m:∀(i c:Nat) (s:d),i<n.lines.length->(c:Int)<(n.lines.getD i default).classes->a8 n i c=[]->I i c s->I i (c+1) s)
  (t:∀(i c:Nat) (s:d),i<n.lines.length->¬(c:Int)<(n.lines.getD i default).classes->I i c s->I (i+1) 0 s)
  (q:∀(i:Nat) (s:d),¬i<n.lines.length->I i 0 s->E s) (S:d) (G:I 0 0 S) :
  ∃s,E s/\bx 232 [.yld y,.ibox n.cells 0] (O S) (.tup []) (O s):=by
 have W:=h.len;have R:=h.flen;have N:4∉ids:=λe=>by have:=A 4 e;omega
 have F:∀s,eU (bg (O s)) 4=none:=λs=>by rw[qi];exact H.free s N
 have u:=ID B;have a:=ID (List.mem_cons_of_mem 4 B);refine dp func232 ntmps232 results232 ?_ (hcl:=⟨H.liveB S,by rw[H.same];simp only[ka,ID B];rfl,H.clB S⟩) (hco:=λs=>⟨rfl,H.clB s,List.all_eq_true.2 λp X=>List.elem_eq_true_of_mem (by rw[H.same,<-H.same S];exact List.mem_map.2 ⟨p,X,rfl⟩)⟩);rw[H.same];repeat'(first|refine' aj|fail)
 all_goals try exact bs
 refine mO (ι:={p:Nat×d//p.1<=n.lines.length/\I p.1 0 p.2}) (λ⟨(i,s),_⟩=>⟨[(0,.yld y),(1,.ibox n.cells 0),(7,slc 5 Line.cells default n.lines),(8,J n.lines.length),(9,J i)],(4,none)::bg (O s)⟩) (λ⟨(i,_),_⟩=>n.lines.length-i) ⟨(0,S),χ _,G⟩ ?_ ?_
 .refine(H.ghost0 S (H.at0 S) ?_).trans (qj (F S));exact⟨⟨u,Θ⟩,⟨rfl,Θ⟩,⟨rfl,Θ⟩,⟨rfl,Θ⟩,⟨rfl,Θ⟩,trivial⟩
 rintro⟨⟨i,s⟩,V,g⟩;dsimp only at V g;conv=>whnf
 by_cases r:(i:Int)<n.lines.length
 .skip;repeat'(first|(refine U r λhb=>?_;conv=>whnf)|refine' aj|fail)
  all_goals try exact bs
  refine mO (ι:={p:Nat×d//(p.1:Int)<=max 0 (n.lines.getD i default).classes/\I i p.1 p.2}) (λ⟨(c,s),_⟩=>⟨[(0,.yld y),(1,.ibox n.cells 0),(3,J i),(7,slc 5 Line.cells default n.lines),(8,J n.lines.length),(9,J i),(15,J (n.lines.getD i default).classes),(16,J c)],(4,some (.box (n.lines.getD i default).cells))::bg (O s)⟩) (λ⟨(c,_),_⟩=>(n.lines.getD i default).classes.toNat-c) ⟨(0,s),κ,g⟩ ?_ ?_
  .refine H.ghost1 4 _ s ?_ ?_ ?_ ?_
   .rfl
   .rfl
   .exact H.at1 N _ s (H.at1 N _ s (H.at1 N _ s (H.at0 s)))
   .exact⟨⟨a,Θ⟩,⟨rfl,Θ⟩,⟨rfl,Θ⟩,⟨rfl,Θ⟩,⟨rfl,Θ⟩,⟨rfl,Θ⟩,⟨rfl,Θ⟩,⟨rfl,Θ⟩,trivial⟩
  rintro⟨⟨c,s⟩,P,g⟩;dsimp only at P g;have Q:=(h.line (n.lines.getD i default) (by rw[γ,υ Z];exact List.getElem_mem _)).cls;conv=>whnf
  by_cases hcl:(c:Int)<(n.lines.getD i default).classes
  .have pm:=cW n i c Z (λj D=>by have:=(h.flow _ (List.getElem_mem D)).ne;rw[γ,υ D];dsimp only[Option.getD_some];omega);by_cases v:a8 n i c=[]
   .have k:¬0<((a8 n i c).length:Int):=by rw[v];decide
    repeat'(first|(refine M k λhb=>?_;conv=>whnf)|(refine U hcl λhb=>?_;conv=>whnf)|refine' aj|fail)
    all_goals try exact bs
    refine⟨⟨(c+1,s),κ,m i c s Z hcl v g⟩,H.ghost1 4 _ s rfl rfl (H.at1 N _ s (H.at0 s)) ?_,κ⟩;exact⟨⟨a,Θ⟩,⟨rfl,Θ⟩,⟨rfl,Θ⟩,⟨rfl,Θ⟩,⟨rfl,Θ⟩,⟨rfl,Θ⟩,⟨rfl,Θ⟩,⟨rfl,Θ⟩,trivial⟩
   .have k:0<((a8 n i c).length:Int):=by
     rcases hl:a8 n i c with _|⟨x,l⟩
     .exact absurd hl v
     .simp only[List.length_cons];omega
    obtain⟨b,outs,⟨s',rfl,ht,z⟩,L⟩:=f i c s Z hcl v g;repeat'(first|(refine U k λhb=>?_;conv=>whnf)|(refine U hcl λhb=>?_;conv=>whnf)|refine' aj|fail)
    all_goals try exact bs
    refine vYield.mk ⟨b,O s,O s',L,i4 (H.at1 N _ s (H.at0 s)),H.outs H s s' _,?_⟩;refine G7 ?_;have o:∀p∈O s',eU (bg (O s')++(4,some (LObj.box (n.lines.getD i default).cells))::bg (O s)) p.1=some p.2:=H.luBA s' _;have K:eU (bg (O s')++(4,some (LObj.box (n.lines.getD i default).cells))::bg (O s)) 4=some (LObj.box (n.lines.getD i default).cells):=by
     rw[ww,H.free s' N];rfl
    cases b with
    |true=>
     repeat'(first|refine' aj|fail)
     all_goals try exact bs
     refine⟨⟨(c+1,s'),κ,ht rfl⟩,H.ghost1 4 _ s' K rfl o ?_,κ⟩;exact⟨⟨a,Θ⟩,⟨rfl,Θ⟩,⟨rfl,Θ⟩,⟨rfl,Θ⟩,⟨rfl,Θ⟩,⟨rfl,Θ⟩,⟨rfl,Θ⟩,⟨rfl,Θ⟩,trivial⟩
    |false=>
     repeat'(first|refine' aj|fail)
     exact⟨s',z rfl,λw0 w C=>⟨_,Ghost.rfl,Θ,i4 o⟩⟩
  .skip;repeat'(first|(refine M hcl λhb=>?_;conv=>whnf)|refine' aj|fail)
   all_goals try exact bs
   refine⟨⟨(i+1,s),κ,t i c s Z hcl g⟩,(H.ghost0 s (H.at1 N _ s (H.at0 s)) ?_).trans (qj (F s)),κ⟩;exact⟨⟨u,Θ⟩,⟨rfl,Θ⟩,⟨rfl,Θ⟩,⟨rfl,Θ⟩,⟨rfl,Θ⟩,trivial⟩
 .skip;repeat'(first|(refine M r λhb=>?_;conv=>whnf)|refine' aj|fail)
  exact⟨s,q i s Z g,λw0 w C=>⟨_,Ghost.rfl,Θ,i4 (H.at1 N none s (H.at0 s))⟩⟩
theorem DI(n:Net):∃_:Unit,True/\q0e 184 [n.av] (.fn 232 [.ibox n.cells 0]):=by
 refine dp func184 ntmps184 results184 ?_;repeat'(first|refine' aj|fail)
 refine aW [2] [] [] [] [(1,some (.box n.cells))] ⟨⟨rfl,rfl⟩,?_,?_⟩ (aX 1 rfl rfl rfl ?_ ?_ (ag ?_))
 .skip;all_goals exact bt
 .skip;all_goals exact bt
 .all_goals try refine' frzZ
 .all_goals try refine' frzZ
 .conv=>whnf
  exact⟨(),rfl,trivial⟩
def KB(m:Option Code)(ks:List Nat)(cs:List AV)(ps:Array Tmp)(assign body:Code)(nt:Nat):LObj:=match m with
 |none=>.lrec .ready none ks cs ps assign body nt
 |some c=>.lrec .done (some c) ks cs ps assign body nt
section
variable {σ:Type} {lids:List Nat} {L:σ->Xc}
theorem recFam(H:Fam lids L){y:Nat}(c:y∉lids){ks:List Nat}{cs:List AV}{ps:Array Tmp}{assign body:Code}{nt:Nat}(a:ka (y::lids) cs=true):Fam (y::lids) (λx:σ×Option Code=>(y,KB x.2 ks cs ps assign body nt)::L x.1):=by
 refine⟨λx=>by rw[List.map_cons,H.same],List.nodup_cons.2 ⟨c,H.nd⟩,λx p h=>?_,λx p h=>?_⟩
 .rcases List.mem_cons.1 h with rfl|h
  .obtain⟨s,m⟩:=x;cases m<;>rfl
  .exact H.live _ p h
 .rcases List.mem_cons.1 h with rfl|h
  .obtain⟨s,m⟩:=x;cases m<;>exact a
  .exact lU (λi b=>List.mem_cons_of_mem _ b) (H.cl _ p h)
def DJ(y nt:Nat)(ks:List Nat)(cs:List AV)(ps:Array Tmp)(assign body:Code)(L:σ->Xc)(G:σ->Prop)(E:Option Code->σ->Prop)(b:Bool)(outs:Xc):Prop :=
 ∃(s:σ) (m:Option Code),outs=(y,KB m ks cs ps assign body nt)::L s/\(b=true->m=none/\G s)/\(b=false->E m s)
theorem sF{P:List Nat}(a:Fam lids L){y nt:Nat}{ks:List Nat}{cs:List AV}{ps:Array Tmp}{assign body:Code}{G:σ->Prop}{E:Option Code->σ->Prop}{B:St}(H:P=y::lids)(e:ka (y::lids) cs=true)(s:σ)(d:G s)
  (g:eU B.objs y=some (.lrec .busy none ks cs ps assign body nt)) (f:∀p∈L s,eU B.objs p.1=some p.2):RFin P nt y ks ps assign body .ready none true (DJ y nt ks cs ps assign body L G E) B:=by
 subst H;refine⟨⟨B.env,B.objs⟩,cs,L s,c9.rfl,g,i4 f,⟨λp c=>?_,?_⟩,s,none,rfl,λ_=>⟨rfl,d⟩,λh=>(by cases h)⟩
 .rw[List.map_cons,a.same];rcases List.mem_cons.1 c with rfl|c
  .exact e
  .exact lU (λi b=>List.mem_cons_of_mem _ b) (a.cl _ p c)
 .rw[List.map_cons,a.same];exact List.all_eq_true.2 λi b=>List.elem_eq_true_of_mem b
theorem qk{P:List Nat}(a:Fam lids L){y nt:Nat}{ks:List Nat}{cs:List AV}{ps:Array Tmp}{assign body:Code}{G:σ->Prop}{E:Option Code->σ->Prop}{B:St}(H:P=y::lids)(f:ka (y::lids) cs=true)(s:σ)(c:Code)(e:E (some c) s)
  (j:eU B.objs y=some (.lrec .busy none ks cs ps assign body nt)) (g:∀p∈L s,eU B.objs p.1=some p.2):RFin P nt y ks ps assign body .done (some c) false (DJ y nt ks cs ps assign body L G E) B:=by
 subst H;refine⟨⟨B.env,B.objs⟩,cs,L s,c9.rfl,j,i4 g,⟨λp d=>?_,?_⟩,s,some c,rfl,λh=>(by cases h),λ_=>e⟩
 .rw[List.map_cons,a.same];rcases List.mem_cons.1 d with rfl|d
  .exact f
  .exact lU (λi b=>List.mem_cons_of_mem _ b) (a.cl _ p d)
 .rw[List.map_cons,a.same];exact List.all_eq_true.2 λi b=>List.elem_eq_true_of_mem b
structure RangeOk(A:St)(pid:List Nat)(nt yid:Nat)(ks:List Nat)(cs:List AV)(ps:Array Tmp)(psl:List Nat)(lids:List Nat)(L0:Xc):Prop where
 pse:ps.toList=psl
 plt:(psl.all λp=>Nat.blt p nt)=true
 free:eU A.objs yid=none
 ins:dT A.o L0
 len:ks.length=cs.length
 env:∀(i k:Nat) (c:AV),ks[i]? =some k->cs[i]? =some c->mz A.env k=some c
 cl:ka (yid::lids) cs=true
 hi:∀i∈yid::lids,800<=i
 nin:yid∉lids
theorem IE{A:St}{nt y:Nat}{ks:List Nat}{cs:List AV}{ps:Array Tmp}{assign body:Code}(H:Fam lids L)(S s:σ)(m:Option Code){K:Exit->St->Prop}
  (h:G6 m K ⟨nw ks cs,(y,some .dead)::(bg (L s)++A.objs)⟩):RangeK A y nt ks ps assign body (L S) ((y,KB m ks cs ps assign body nt)::L s) K:=by
 cases m with
 |none=>exact⟨.ready,none,cs,L s,rfl,(by intro e;cases e),H.outs H S s _,h⟩
 |some c=>exact⟨.done,some c,cs,L s,rfl,(by intro e;cases e),H.outs H S s _,h⟩
theorem sG{q:List Nat}{nt:Nat}{A:St}{g:Operand}{ps:Array Tmp}{assign body:Code}{K:Exit->St->Prop}(y:Nat)(n:Net)(h:NetOk n)(D:cm A.s g=some (.fn 232 [.ibox n.cells 0]))(ks:List Nat)(cs:List AV)(P:List Nat)(u:P.length=2)
  (f:Fam lids L) (S:σ) (H:RangeOk A q nt y ks cs ps P lids (L S)) (I:Nat->Nat->σ->Prop) (E:Option Code->σ->Prop)
  (e:∀(i c:Nat) (s:σ),i<n.lines.length->(c:Int)<(n.lines.getD i default).classes->a8 n i c≠[]->I i c s->
   GoodE prog (y::lids) nt assign ⟨ul P [J i,J c] (nw ks cs),(y,some (.lrec .ready none ks cs ps assign body nt))::bg (L s)⟩ (Ns prog (y::lids) nt y ks ps assign body (DJ y nt ks cs ps assign body L (I i (c+1)) E)))
  (j:∀(i c:Nat) (s:σ),i<n.lines.length->(c:Int)<(n.lines.getD i default).classes->a8 n i c=[]->I i c s->I i (c+1) s)
  (o:∀(i c:Nat) (s:σ),i<n.lines.length->¬(c:Int)<(n.lines.getD i default).classes->I i c s->I (i+1) 0 s)
  (l:∀(i:Nat) (s:σ),¬i<n.lines.length->I i 0 s->E none s) (w:I 0 0 S)
  (B:∀m s,E m s->G6 m K ⟨nw ks cs,(y,some .dead)::(bg (L s)++A.objs)⟩):LoopE prog q nt (.rangeFunc g ps assign body) A K:=by
 have z:=recFam f H.nin (ks:=ks) (ps:=ps) (assign:=assign) (body:=body) (nt:=nt) H.cl;refine yf (α:=σ×Option Code) (r:=λ_=>.tup []) (outs:=λx=>(y,KB x.2 ks cs ps assign body nt)::L x.1) (Q:=λx=>E x.2 x.1) y D H.free (L S) H.ins ks cs H.len H.env ?_ λx G=>IE f S x.1 x.2 (B x.2 x.1 G);refine DH z H.hi y List.mem_cons_self n h (λi c x=>x.2=none/\I i c x.1) (λx=>E x.2 x.1) (λi c x d k t a=>?_) (λi c x d k t a=>⟨a.1,j i c x.1 d k t a.2⟩) (λi c x d k a=>⟨a.1,o i c x.1 d k a.2⟩)
  (λi x d a=>by rw[a.1];exact l i x.1 d a.2) (S,none) ⟨rfl,w⟩
 obtain⟨s,m⟩:=x;obtain⟨rfl,a⟩:=a;have v:=e i c s d k t a;rw[show y::lids=y::(L s).map (·.1) by rw[f.same]]at v;obtain⟨b,outs,⟨s',N,rfl,O,R⟩,C⟩:=G5 (cs:=cs) (L:=L s) H.pse (by rw[u];rfl) H.plt ⟨f.liveB s,rfl,by rw[f.same];exact H.cl,λp F=>by rw[f.same];exact lU (λi d=>List.mem_cons_of_mem _ d) (f.cl s p F)⟩ v;exact⟨b,_,⟨(s',N),rfl,λhb=>O hb,R⟩,C⟩
end
def kx(d:Xa)(i c:Nat):Int:=(d.getD i []).getD c 0
def yb(n:Net)(P:Nat->Nat->Prop):Prop:=∀i c:Nat,i<n.lines.length->(c:Int)<(n.lines.getD i default).classes->a8 n i c≠[]->P i c
def cM(n:Net)(P:Nat->Nat->Prop)(i c:Nat):Prop:=∀a b:Nat,a<n.lines.length->(b:Int)<(n.lines.getD a default).classes->a8 n a b≠[]->(a<i\/a=i/\b<c)->P a b
theorem cM.zero(n:Net)(P:Nat->Nat->Prop):cM n P 0 0:=λa b _ _ _ h=>Z
theorem cM.step{n:Net}{P:Nat->Nat->Prop}{i c:Nat}(h:cM n P i c)(g:P i c):cM n P i (c+1):=λa b H d f j=>by
 by_cases e:a=i/\b=c
 .rw[e.1,e.2];exact g
 .exact h a b H d f Z
theorem cM.skip{n:Net}{P:Nat->Nat->Prop}{i c:Nat}(h:cM n P i c)(g:a8 n i c=[]):cM n P i (c+1):=λa b d f H j=>by
 by_cases e:a=i/\b=c
 .rw[e.1,e.2,g]at H;exact absurd rfl H
 .exact h a b d f H Z
theorem cM.row{n:Net}{P:Nat->Nat->Prop}{i c:Nat}(h:cM n P i c)(j:¬(c:Int)<(n.lines.getD i default).classes):cM n P (i+1) 0:=λa b d e f g=>by
 refine h a b d e f ?_;rcases ξ a i with H|H
 .exact .inl H
 .obtain rfl:a=i:=Z;exact .inr ⟨rfl,Z⟩
theorem cM.all{n:Net}{P:Nat->Nat->Prop}{i:Nat}(h:cM n P i 0)(e:¬i<n.lines.length):yb n P:=λa b H c d=>h a b H c d Z
structure DimOk(n:Net)(d:Xa):Prop where
 len:d.length=n.lines.length
 row:∀i:Nat,i<n.lines.length->((d.getD i []).length:Int)=(n.lines.getD i default).classes
theorem ShapeOk.dim{n:Net}{d:Xa}(h:ShapeOk n d):DimOk n d:=⟨h.len,h.row⟩
def yj(n:Net)(d e:Xa):Prop:=yb n (λi c=>0<=kx d i c)/\yb n (λi c=>0<=kx e i c/\kx e i c<=kx d i c)
def MY:Option (Xa)->AV
 |some e=>.tup [aF e,.bool true]
 |none=>.tup [.nils,.bool false]
def L1(E:List (Nat×AV)):List Nat->List AV->Prop
 |[],[]=>True
 |k::ks,c::cs=>mz E k=some c/\L1 E ks cs
 |_,_=>False
theorem ql{E:List (Nat×AV)}:∀{ks:List Nat} {cs:List AV},L1 E ks cs->∀(i k:Nat) (c:AV),ks[i]? =some k->cs[i]? =some c->mz E k=some c
 |[],[],_,i,k,c,h,_=>by simp at h
 |[],_::_,h,_,_,_,_,_=>h.elim
 |_::_,[],h,_,_,_,_,_=>h.elim
 |k0::ks,c0::cs,h,0,k,c,h1,h2=>by cases h1;cases h2;exact h.1
 |k0::ks,c0::cs,h,i+1,k,c,h1,h2=>ql h.2 i k c (by simpa using h1) (by simpa using h2)
theorem wx{B:Xb}{a b:Nat}{x y:LObj}(H:eU B a=some x)(c:eU B b=some y):∀p∈[(a,x),(b,y)],eU B p.1=some p.2:=λp h=>by
 rcases List.mem_cons.1 h with rfl|h
 .exact H
 .rw[List.mem_singleton.1 h];exact c
theorem PA(a b:Nat)(H:a≠b)(x y:LObj)(d:x.live=true)(e:y.live=true)(c:eu [a,b] x)(C:eu [a,b] y):Fam [a,b] (λ_:Unit=>[(a,x),(b,y)]):=by
 refine⟨λ_=>rfl,List.nodup_cons.2 ⟨by simpa using H,List.nodup_cons.2 ⟨by simp,List.nodup_nil⟩⟩,λ_ p h=>?_,λ_ p h=>?_⟩
 .rcases List.mem_cons.1 h with rfl|h
  .exact d
  .rw[List.mem_singleton.1 h];exact e
 .rcases List.mem_cons.1 h with rfl|h
  .exact c
  .rw[List.mem_singleton.1 h];exact C
theorem G8(n:Net)(d e:Xa)(h:NetOk n)(o:ShapeOk n d)(s:DimOk n e)(r:q0e 185 [n.av,aF d] (.tup [aF e,J 0])) :
  ∃x:Option (Xa),((x=some e/\yj n d e)\/(x=none/\¬yj n d e))/\q0e 128 [n.av,aF d] (MY x):=by
 have P:=dA n d h o;obtain⟨_,_,v⟩:=DI n;have j:=PA 804 805 η (.box [.nils]) (.box [.bool false]) rfl rfl rfl rfl;refine dp func128 ntmps128 results128 ?_ (hco:=λx=>⟨by cases x<;>rfl,by simp,rfl⟩);repeat'(first|(refine az [] [] [(804,4),(805,5)] [(2,.lptr 2 0),(3,.lptr 3 0),(4,.lptr 804 0),(5,.lptr 805 0)] [(2,some (.box n.cells)),(3,some (.box [aF d])),(804,some (.box [.nils])),(805,some (.box [.bool false]))] ⟨⟨rfl,rfl⟩,bt,bt⟩ ?_;(conv=>whnf);(refine a7 2 rfl rfl rfl ?_ ?_ ?_;(solve|try refine' frzZ);(solve|try refine' frzZ));(conv=>whnf);(refine a7 3 rfl rfl rfl ?_ ?_ ?_;(solve|try refine' frzZ);(solve|try refine' frzZ));(conv=>whnf))|refine' aj|fail)
 refine sG 801 n h rfl [2,3,4,5] [.ibox n.cells 0,.ibox [aF d] 0,.lptr 804 0,.lptr 805 0] [18,19] rfl j () ⟨rfl,rfl,rfl,⟨rfl,rfl,trivial⟩,rfl,ql ⟨rfl,rfl,rfl,rfl,trivial⟩,rfl,η,η⟩
  (λi c _=>cM n (λi c=>0<=kx d i c) i c) (λm _=>(m=none/\yb n (λi c=>0<=kx d i c))\/(m=some .ret/\¬yb n (λi c=>0<=kx d i c)))
  (λi c _ b a g H=>?_) (λi c _ _ _ g H=>H.skip g) (λi c _ _ a H=>H.row a) (λi _ b H=>.inl ⟨rfl,H.all b⟩) (cM.zero _ _) ?_
 .have p:=o.len;have q:=o.row i b;have E:(i:Int).toNat=i:=rfl;by_cases l:kx d i c<0
  .skip;repeat'(first|(refine U l λhb=>?_;conv=>whnf)|(refine Exists.intro _ (And.intro rfl ?_))|refine' aj|fail)
   all_goals try first|omega|(rw[E];omega)
   exact qk j rfl rfl () .ret (.inr ⟨rfl,λf=>absurd (f i c b a g) Z⟩) rfl (wx rfl rfl)
  .skip;repeat'(first|(refine M l λhb=>?_;conv=>whnf)|(refine Exists.intro _ (And.intro rfl ?_))|refine' aj|fail)
   all_goals try first|omega|(rw[E];omega)
   exact sF j rfl rfl () (H.step Z) rfl (wx rfl rfl)
 rintro m _ (⟨rfl,f⟩|⟨rfl,f⟩)
 .conv=>whnf
  repeat'(first|(refine az [2,3,4,5] [804,805] [] [(8,.lptr 8 0),(9,J 0)] [(8,some (.box [aF e]))] ⟨⟨rfl,rfl⟩,bt,bt⟩ ?_;(conv=>whnf);(refine a7 8 rfl rfl rfl ?_ ?_ ?_;(solve|try refine' frzZ);(solve|try refine' frzZ));(conv=>whnf))|refine' aj|fail)
  refine sG 802 n h rfl [2,3,4,5,8] [.ibox n.cells 0,.ibox [aF d] 0,.lptr 804 0,.lptr 805 0,.ibox [aF e] 0] [38,39] rfl j () ⟨rfl,rfl,rfl,⟨rfl,rfl,trivial⟩,rfl,ql ⟨rfl,rfl,rfl,rfl,rfl,trivial⟩,rfl,η,η⟩
   (λi c _=>cM n (λi c=>0<=kx e i c/\kx e i c<=kx d i c) i c) (λm _=>(m=none/\yb n (λi c=>0<=kx e i c/\kx e i c<=kx d i c))\/(m=some .ret/\¬yb n (λi c=>0<=kx e i c/\kx e i c<=kx d i c)))
   (λi c _ b a g H=>?_) (λi c _ _ _ g H=>H.skip g) (λi c _ _ a H=>H.row a) (λi _ b H=>.inl ⟨rfl,H.all b⟩) (cM.zero _ _) ?_
  .have p:=o.len;have q:=o.row i b;have t:=s.len;have u:=s.row i b;have E:(i:Int).toNat=i:=rfl;by_cases l:kx e i c<0
   .skip;repeat'(first|(refine U l λhb=>?_;conv=>whnf)|(refine Exists.intro _ (And.intro rfl ?_))|refine' aj|fail)
    all_goals try first|omega|(rw[E];omega)
    exact qk j rfl rfl () .ret (.inr ⟨rfl,λf=>absurd (f i c b a g).1 Z⟩) rfl (wx rfl rfl)
   .by_cases hq:kx e i c>kx d i c
    .skip;repeat'(first|(refine U hq λhb=>?_;conv=>whnf)|(refine M l λhb=>?_;conv=>whnf)|(refine Exists.intro _ (And.intro rfl ?_))|refine' aj|fail)
     all_goals try first|omega|(rw[E];omega)
     exact qk j rfl rfl () .ret (.inr ⟨rfl,λf=>absurd (f i c b a g).2 Z⟩) rfl (wx rfl rfl)
    .skip;repeat'(first|(refine M hq λhb=>?_;conv=>whnf)|(refine M l λhb=>?_;conv=>whnf)|(refine Exists.intro _ (And.intro rfl ?_))|refine' aj|fail)
     all_goals try first|omega|(rw[E];omega)
     exact sF j rfl rfl () (H.step ⟨Z,Z⟩) rfl (wx rfl rfl)
  rintro m _ (⟨rfl,k⟩|⟨rfl,k⟩)
  .conv=>whnf
   repeat'(first|refine' aj|fail)
   exact ag ⟨some e,rfl,.inl ⟨rfl,f,k⟩⟩
  .conv=>whnf
   exact ag ⟨none,rfl,.inr ⟨rfl,λa=>k a.2⟩⟩
 .conv=>whnf
  exact ag ⟨none,rfl,.inr ⟨rfl,λa=>f a.1⟩⟩
theorem wy(n:Net)(d e:Xa)(h:NetOk n)(c:ShapeOk n d)(f:DimOk n e)(H:q0e 185 [n.av,aF d] (.tup [aF e,J 0])) :
  ∃b:Bool,(b=true↔yj n d e)/\q0e 69 [n.av,aF d] (.bool b):=by
 have p:=G8 n d e h c f H;refine dp func69 ntmps69 results69 ?_;rcases p with⟨x,(⟨rfl,a⟩|⟨rfl,a⟩),p⟩
 .skip;repeat'(first|refine' b7|refine ab p ?_)
  exact⟨true,rfl,λ_=>a,λ_=>rfl⟩
 .skip;repeat'(first|refine' b7|refine ab p ?_)
  exact⟨false,rfl,λh=>(by cases h),λh=>absurd h a⟩
def KO:Option (Xa)->AV
 |some d=>aF d
 |none=>.nils
def DK:Option (Xa×Nat)->Option (Xa)×Int×Int
 |some (d,k)=>(some d,k,0)
 |none=>(none,0,5)
def DL(x:Option (Xa×Nat)):AV:=.tup [KO (DK x).1,J (DK x).2.1,J (DK x).2.2]
def nO(n:Net)(D:Nat->Xa)(k:Nat):Prop:=∀j,1<=j->j<=k->yb n (λi c=>0<=kx (D j) i c)/\D (j-1)≠D j
def j2(n:Net)(D:Nat->Xa)(r:Nat):Option (Xa×Nat)->Prop
 |some (d,k)=>1<=k/\k<=r/\d=D k/\nO n D (k-1)/\yb n (λi c=>0<=kx (D k) i c)/\D (k-1)=D k
 |none=>(∃k,1<=k/\k<=r/\nO n D (k-1)/\¬yb n (λi c=>0<=kx (D k) i c))\/nO n D r
theorem nO.next{n:Net}{D:Nat->Xa}{k:Nat}(h:nO n D k)(d:yb n (λi c=>0<=kx (D (k+1)) i c))(b:D k≠D (k+1)):nO n D (k+1):=λj a e=>by
 rcases ξ k j with H|H
 .obtain rfl:j=k+1:=Z;exact⟨d,b⟩
 .exact h j a H
end Go.Nc