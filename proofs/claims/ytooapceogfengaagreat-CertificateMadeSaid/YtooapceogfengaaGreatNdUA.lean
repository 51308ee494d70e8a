/- Parts. -/
import Derived.Test.YtooapceogfengaaGreatNdEB
import Derived.Test.YtooapceogfengaaGreatNdJC
namespace Go.Nc
open Go.Proofs.Tryz
open Go.Proofs
set_option maxHeartbeats 8000000
theorem DU{i:List Nat}{yid:Nat}(h:yid∈i):gu i (.yld yid)=true:=by
 unfold gu;exact List.elem_eq_true_of_mem h
theorem jD{P:List Nat}{nt:Nat}{A:St}{env:List (Nat×AV)}{L:Xc}(I:List Nat)(h:L.map (·.1)=I)(b:∀i∈P,i∈I)(a:∀p∈L,eU A.objs p.1=some p.2)(hcl:∀p∈L,eu I p.2)(H:yz A.env I env):cQ P nt A ⟨env,aW L⟩:=by
 subst h;exact y5 b a hcl H
section
variable {σ:Type} {ids:List Nat} {O:σ->Xc}
theorem Fam.ghost0(H:Fam ids O){nt:Nat}{A:St}{env:List (Nat×AV)}(s:σ)(b:∀p∈O s,eU A.objs p.1=some p.2)(a:yz A.env ids env):cQ ids nt A ⟨env,aW (O s)⟩ :=
 jD ids (H.same s) (λ_ h=>h) b (H.cl s) a
theorem Fam.ghost1(a:Fam ids O){nt:Nat}{A:St}{env:List (Nat×AV)}(k:Nat)(ob:LObj)(s:σ)(d:eU A.objs k=some ob)(b:eu (k::ids) ob)(e:∀p∈O s,eU A.objs p.1=some p.2)(c:yz A.env (k::ids) env):cQ ids nt A ⟨env,(k,some ob)::aW (O s)⟩:=by
 refine jD (L:=(k,ob)::O s) (k::ids) (by rw[List.map_cons,a.same]) (λi H=>by simp[H]) (λp h=>?_) (λp h=>?_) c
 .rcases List.mem_cons.1 h with rfl|h
  .exact d
  .exact e p h
 .rcases List.mem_cons.1 h with rfl|h
  .exact b
  .exact gW (λi H=>by simp[H]) (a.cl s p h)
theorem Fam.at1(a:Fam ids O){k:Nat}(b:k∉ids)(x:Option LObj)(s:σ){B:Xb}(h:∀p∈O s,eU B p.1=some p.2):∀p∈O s,eU ((k,x)::B) p.1=some p.2:=λp H=>by
 rw[gP,if_neg λe=>b (by rw[<-e,<-a.same s];exact List.mem_map.2 ⟨p,H,rfl⟩)];exact h p H
theorem Fam.at0(h:Fam ids O)(s:σ):∀p∈O s,eU (aW (O s)) p.1=some p.2:=λp H=>by rw[jC,h.lu s p H]
end
theorem DV{d:Type}{g:List Nat}{O:d->Xc}(H:Fam g O)(A:∀i∈g,800<=i)(yid:Nat)(B:yid∈g)(n:Net)(h:NetOk n)(I:Nat->Nat->d->Prop)(E:d->Prop)
  (f:∀(i c:Nat) (s:d),i<n.lines.length->(c:Int)<(n.lines.getD i default).classes->a6 n i c≠[]->I i c s->∃b outs,(∃s',outs=O s'/\(b=true->I i (c+1) s')/\(b=false->E s'))/\YSpec prog yid [J i,J c] (O s) b outs)
  (o:∀(i c:Nat) (s:d),i<n.lines.length->(c:Int)<(n.lines.getD i default).classes->a6 n i c=[]->I i c s->I i (c+1) s)
  (u:∀(i c:Nat) (s:d),i<n.lines.length->¬(c:Int)<(n.lines.getD i default).classes->I i c s->I (i+1) 0 s)
  (r:∀(i:Nat) (s:d),¬i<n.lines.length->I i 0 s->E s) (S:d) (G:I 0 0 S) :
  ∃s,E s/\fl 67 [.yld yid,.ibox n.cells 0] (O S) (.tup []) (O s):=by
 have W:=h.len;have R:=h.flen;have N:4∉g:=λe=>by have:=A 4 e;omega
 have F:∀s,eU (aW (O s)) 4=none:=λs=>by rw[jC];exact H.free s N
 have v:=DU B;have a:=DU (List.mem_cons_of_mem 4 B);refine dp func67 ntmps67 results67 ?_ (hcl:=⟨H.liveB S,by rw[H.same];simp only[ka,DU B];rfl,H.clB S⟩) (hco:=λs=>⟨rfl,H.clB s,List.all_eq_true.2 λp X=>List.elem_eq_true_of_mem (by rw[H.same,<-H.same S];exact List.mem_map.2 ⟨p,X,rfl⟩)⟩);rw[H.same];repeat'(first|refine' ag|fail)
 all_goals try exact bs
 refine jZ (ι:={p:Nat×d//p.1<=n.lines.length/\I p.1 0 p.2}) (λ⟨(i,s),_⟩=>⟨[(0,.yld yid),(1,.ibox n.cells 0),(7,iB 5 Line.cells default n.lines),(8,J n.lines.length),(9,J i)],(4,none)::aW (O s)⟩) (λ⟨(i,_),_⟩=>n.lines.length-i) ⟨(0,S),π _,G⟩ ?_ ?_
 .refine(H.ghost0 S (H.at0 S) ?_).trans (qz (F S));exact⟨⟨v,Y⟩,⟨rfl,Y⟩,⟨rfl,Y⟩,⟨rfl,Y⟩,⟨rfl,Y⟩,trivial⟩
 rintro⟨⟨i,s⟩,V,k⟩;dsimp only at V k;conv=>whnf
 by_cases t:(i:Int)<n.lines.length
 .skip;repeat'(first|(refine U t λhb=>?_;conv=>whnf)|refine' ag|fail)
  all_goals try exact bs
  refine jZ (ι:={p:Nat×d//(p.1:Int)<=max 0 (n.lines.getD i default).classes/\I i p.1 p.2}) (λ⟨(c,s),_⟩=>⟨[(0,.yld yid),(1,.ibox n.cells 0),(3,J i),(7,iB 5 Line.cells default n.lines),(8,J n.lines.length),(9,J i),(15,J (n.lines.getD i default).classes),(16,J c)],(4,some (.box (n.lines.getD i default).cells))::aW (O s)⟩) (λ⟨(c,_),_⟩=>(n.lines.getD i default).classes.toNat-c) ⟨(0,s),κ,k⟩ ?_ ?_
  .refine H.ghost1 4 _ s ?_ ?_ ?_ ?_
   .rfl
   .rfl
   .exact H.at1 N _ s (H.at1 N _ s (H.at1 N _ s (H.at0 s)))
   .exact⟨⟨a,Y⟩,⟨rfl,Y⟩,⟨rfl,Y⟩,⟨rfl,Y⟩,⟨rfl,Y⟩,⟨rfl,Y⟩,⟨rfl,Y⟩,⟨rfl,Y⟩,trivial⟩
  rintro⟨⟨c,s⟩,P,k⟩;dsimp only at P k;have Q:=(h.line (n.lines.getD i default) (by rw[ψ,β Z];exact List.getElem_mem _)).cls;conv=>whnf
  by_cases hcl:(c:Int)<(n.lines.getD i default).classes
  .have pm:=da n i c Z (λj D=>by have:=(h.flow _ (List.getElem_mem D)).ne;rw[ψ,β D];dsimp only[Option.getD_some];omega);by_cases w:a6 n i c=[]
   .have m:¬0<((a6 n i c).length:Int):=by rw[w];decide
    repeat'(first|(refine M m λhb=>?_;conv=>whnf)|(refine U hcl λhb=>?_;conv=>whnf)|refine' ag|fail)
    all_goals try exact bs
    refine⟨⟨(c+1,s),κ,o i c s Z hcl w k⟩,H.ghost1 4 _ s rfl rfl (H.at1 N _ s (H.at0 s)) ?_,κ⟩;exact⟨⟨a,Y⟩,⟨rfl,Y⟩,⟨rfl,Y⟩,⟨rfl,Y⟩,⟨rfl,Y⟩,⟨rfl,Y⟩,⟨rfl,Y⟩,⟨rfl,Y⟩,trivial⟩
   .have m:0<((a6 n i c).length:Int):=by
     rcases hl:a6 n i c with _|⟨x,l⟩
     .exact absurd hl w
     .simp only[List.length_cons];omega
    obtain⟨b,outs,⟨s',rfl,ht,z⟩,L⟩:=f i c s Z hcl w k;repeat'(first|(refine U m λhb=>?_;conv=>whnf)|(refine U hcl λhb=>?_;conv=>whnf)|refine' ag|fail)
    all_goals try exact bs
    refine vYield.mk ⟨b,O s,O s',L,fA (H.at1 N _ s (H.at0 s)),H.outs H s s' _,?_⟩;refine Ab ?_;have q:∀p∈O s',eU (aW (O s')++(4,some (LObj.box (n.lines.getD i default).cells))::aW (O s)) p.1=some p.2:=H.luBA s' _;have K:eU (aW (O s')++(4,some (LObj.box (n.lines.getD i default).cells))::aW (O s)) 4=some (LObj.box (n.lines.getD i default).cells):=by
     rw[qx,H.free s' N];rfl
    cases b with
    |true=>
     repeat'(first|refine' ag|fail)
     all_goals try exact bs
     refine⟨⟨(c+1,s'),κ,ht rfl⟩,H.ghost1 4 _ s' K rfl q ?_,κ⟩;exact⟨⟨a,Y⟩,⟨rfl,Y⟩,⟨rfl,Y⟩,⟨rfl,Y⟩,⟨rfl,Y⟩,⟨rfl,Y⟩,⟨rfl,Y⟩,⟨rfl,Y⟩,trivial⟩
    |false=>
     repeat'(first|refine' ag|fail)
     exact⟨s',z rfl,λw0 y C=>⟨_,Ghost.rfl,Y,fA q⟩⟩
  .skip;repeat'(first|(refine M hcl λhb=>?_;conv=>whnf)|refine' ag|fail)
   all_goals try exact bs
   refine⟨⟨(i+1,s),κ,u i c s Z hcl k⟩,(H.ghost0 s (H.at1 N _ s (H.at0 s)) ?_).trans (qz (F s)),κ⟩;exact⟨⟨v,Y⟩,⟨rfl,Y⟩,⟨rfl,Y⟩,⟨rfl,Y⟩,⟨rfl,Y⟩,trivial⟩
 .skip;repeat'(first|(refine M t λhb=>?_;conv=>whnf)|refine' ag|fail)
  exact⟨s,r i s Z k,λw0 y C=>⟨_,Ghost.rfl,Y,fA (H.at1 N none s (H.at0 s))⟩⟩
theorem BG{g:Type}{c a:List Nat}{R:g->Xc}{O:Xa×g->Xc}(e:Fam c R)(h:Fam a O)(q:899∉c)(r:∀x p,p∈O x↔p=(899,.box [aB x.1])\/p∈R x.2)(yid:Nat)(G:yid∈c)(n:Net)
  (N:Nat) (D:Nat->Xa) (j:∀k,k<N->bx 66 [n.av,aB (D k)] (.tup [aB (D (k+1)),J 0])) (I:Nat->g->Prop) (E:g->Prop)
  (f:∀(k:Nat) (s:g),k<N->I k s->∃b outs,(∃s',outs=R s'/\(b=true->k+1<N/\I (k+1) s')/\(b=false->E s'))/\YSpec prog yid [aB (D (k+1)),J 0] (R s) b outs)
  (S:g) (P:I 0 S) (X:0<N):∃x:Xa×g,E x.2/\fl 65 [.yld yid,.ibox n.cells 0,.lptr 899 0] (O (D 0,S)) (.tup []) (O x):=by
 have B:∀i,i∈a↔i=899\/i∈c:=λi=>by
  rw[<-h.same (D 0,S),<-e.same S];simp only[List.mem_map,r];constructor
  .rintro⟨p,rfl|H,rfl⟩
   .exact .inl rfl
   .exact .inr ⟨p,H,rfl⟩
  .rintro(rfl|⟨p,H,rfl⟩)
   .exact⟨_,.inl rfl,rfl⟩
   .exact⟨p,.inr H,rfl⟩
 have z:gu a (.lptr 899 0)=true:=by
  unfold gu;exact List.elem_eq_true_of_mem ((B 899).2 (.inl rfl))
 have l:=DU (List.mem_cons_of_mem 899 G);have v:∀{A:St} {env:List (Nat×AV)} (d:Xa) (s:g),eU A.objs 899=some (.box [aB d])->(∀p∈R s,eU A.objs p.1=some p.2)->yz A.env (899::c) env->cQ a 22 A ⟨env,(899,some (.box [aB d]))::aW (R s)⟩:=λd s Q V W=>by
  refine jD (L:=(899,.box [aB d])::R s) (899::c) (by rw[List.map_cons,e.same]) (λi o=>?_) (λp H=>?_) (λp H=>?_) W
  .rcases(B i).1 o with rfl|o
   .exact List.mem_cons_self
   .exact List.mem_cons_of_mem _ o
  .rcases List.mem_cons.1 H with rfl|H
   .exact Q
   .exact V p H
  .rcases List.mem_cons.1 H with rfl|H
   .rfl
   .exact gW (λi o=>List.mem_cons_of_mem _ o) (e.cl s p H)
 refine dp func65 ntmps65 results65 ?_ (hcl:=⟨h.liveB _,by rw[h.same];simp only[ka,DU ((B yid).2 (.inr G)),z];rfl,h.clB _⟩) (hco:=λx=>⟨rfl,h.clB x,List.all_eq_true.2 λp H=>List.elem_eq_true_of_mem (by rw[h.same,<-h.same (D 0,S)];exact List.mem_map.2 ⟨p,H,rfl⟩)⟩);rw[h.same];refine aQ (v (env:=[(0,.yld yid),(1,.ibox n.cells 0),(2,.lptr 899 0)]) (D 0) S ?_ ?_ ?_) ?_
 .rw[jC];exact h.lu _ (899,.box [aB (D 0)]) ((r _ _).2 (.inl rfl))
 .intro p H;rw[jC];exact h.lu _ p ((r _ _).2 (.inr H))
 .exact⟨⟨l,Y⟩,⟨rfl,Y⟩,⟨rfl,Y⟩,trivial⟩
 repeat'(first|refine' ag|fail)
 refine jZ (ι:={p:Nat×g//p.1<N/\I p.1 p.2}) (λ⟨(k,s),_⟩=>⟨[(0,.yld yid),(1,.ibox n.cells 0),(2,.lptr 899 0)],(899,some (.box [aB (D k)]))::aW (R s)⟩) (λ⟨(k,_),_⟩=>N-k) ⟨(0,S),X,P⟩ cQ.rfl ?_;rintro⟨⟨k,s⟩,w,F⟩;dsimp only at w F;conv=>whnf
 obtain⟨b,outs,⟨s',rfl,ht,u⟩,hY⟩:=f k s w F;have ps:=j k w;repeat'(first|refine' ag|fail)
 refine vYield.mk ⟨b,R s,R s',hY,fA (e.at1 q _ s (e.at0 s)),e.outs e s s' _,?_⟩;refine Ab ?_;have m:∀p∈R s',eU (aW (R s')++(899,some (LObj.box [aB (D k)]))::aW (R s)) p.1=some p.2:=e.luBA s' _;have C:eU (aW (R s')++(899,some (LObj.box [aB (D k)]))::aW (R s)) 899=some (LObj.box [aB (D k)]):=by
  rw[qx,e.free s' q];rfl
 cases b with
 |true=>
  obtain⟨y,t⟩:=ht rfl;conv=>whnf
  refine fg ?_;conv=>whnf
  refine fg ?_;conv=>whnf
  refine aQ (v (env:=[(0,.yld yid),(1,.ibox n.cells 0),(2,.lptr 899 0),(4,aB (D (k+1)))]) (D k) s' C m ⟨⟨l,Y⟩,⟨rfl,Y⟩,⟨rfl,Y⟩,⟨rfl,Y⟩,trivial⟩) ?_;repeat'(first|refine' ag|fail)
  refine⟨⟨(k+1,s'),y,t⟩,v (D (k+1)) s' rfl (e.at1 q _ s' (e.at1 q _ s' (e.at0 s'))) ⟨⟨l,Y⟩,⟨rfl,Y⟩,⟨rfl,Y⟩,trivial⟩,κ⟩
 |false=>
  repeat'(first|refine' ag|fail)
  refine⟨(D k,s'),u rfl,λw0 K ρ0=>⟨_,Ghost.rfl,Y,fA λp H=>?_⟩⟩;rcases(r _ _).1 H with rfl|H
  .exact C
  .exact m p H
theorem BH(n:Net)(d:Xa):∃_:Unit,True/\fl 42 [n.av,aB d] [] (.fn 65 [.ibox n.cells 0,.lptr 899 0]) [(899,.box [aB d])]:=by
 refine dp func42 ntmps42 results42 ?_ (hco:=λ_=>⟨rfl,bW rfl,rfl⟩);repeat'(first|(refine au [3] [3] [] [(2,.lptr 2 0)] [(2,some (.box n.cells))] ⟨⟨rfl,rfl⟩,bt,bt⟩ ?_;(conv=>whnf);(refine az 2 rfl rfl rfl ?_ ?_ ?_;(solve|try refine' b8);(solve|try refine' b8));(conv=>whnf))|refine' ag|fail)
 refine aU [] [] [(899,3)] [(4,.fn 65 [.ibox n.cells 0,.lptr 899 0])] [(899,some (.box [aB d]))] ⟨⟨rfl,rfl⟩,?_,?_⟩ ?_
 .skip;all_goals exact bt
 .skip;all_goals exact bt
 conv=>whnf
 exact aJ ⟨(),rfl,⟨rfl,trivial⟩,trivial⟩
theorem wG(n:Net):∃_:Unit,True/\bx 43 [n.av] (.fn 67 [.ibox n.cells 0]):=by
 refine dp func43 ntmps43 results43 ?_;repeat'(first|refine' ag|fail)
 refine aU [2] [] [] [] [(1,some (.box n.cells))] ⟨⟨rfl,rfl⟩,?_,?_⟩ (bb 1 rfl rfl rfl ?_ ?_ (ac ?_))
 .skip;all_goals exact bt
 .skip;all_goals exact bt
 .all_goals try refine' b8
 .all_goals try refine' b8
 .conv=>whnf
  exact⟨(),rfl,trivial⟩
def KB(m:Option Code)(ks:List Nat)(cs:List AV)(ps:Array Tmp)(assign body:Code)(nt:Nat):LObj:=match m with
 |none=>.lrec .ready none ks cs ps assign body nt
 |some c=>.lrec .done (some c) ks cs ps assign body nt
section
variable {σ:Type} {lids:List Nat} {L:σ->Xc}
theorem DW(H:Fam lids L){yid:Nat}(c:yid∉lids){ks:List Nat}{cs:List AV}{ps:Array Tmp}{assign body:Code}{nt:Nat}(a:ka (yid::lids) cs=true):Fam (yid::lids) (λx:σ×Option Code=>(yid,KB x.2 ks cs ps assign body nt)::L x.1):=by
 refine⟨λx=>by rw[List.map_cons,H.same],List.nodup_cons.2 ⟨c,H.nd⟩,λx p h=>?_,λx p h=>?_⟩
 .rcases List.mem_cons.1 h with rfl|h
  .obtain⟨s,m⟩:=x;cases m<;>rfl
  .exact H.live _ p h
 .rcases List.mem_cons.1 h with rfl|h
  .obtain⟨s,m⟩:=x;cases m<;>exact a
  .exact gW (λi b=>List.mem_cons_of_mem _ b) (H.cl _ p h)
def Ac(yid nt:Nat)(ks:List Nat)(cs:List AV)(ps:Array Tmp)(assign body:Code)(L:σ->Xc)(G:σ->Prop)(E:Option Code->σ->Prop)(b:Bool)(outs:Xc):Prop :=
 ∃(s:σ) (m:Option Code),outs=(yid,KB m ks cs ps assign body nt)::L s/\(b=true->m=none/\G s)/\(b=false->E m s)
theorem kw{P:List Nat}(a:Fam lids L){yid nt:Nat}{ks:List Nat}{cs:List AV}{ps:Array Tmp}{assign body:Code}{G:σ->Prop}{E:Option Code->σ->Prop}{B:St}(H:P=yid::lids)(e:ka (yid::lids) cs=true)(s:σ)(d:G s)
  (g:eU B.objs yid=some (.lrec .busy none ks cs ps assign body nt)) (f:∀p∈L s,eU B.objs p.1=some p.2):RFin P nt yid ks ps assign body .ready none true (Ac yid nt ks cs ps assign body L G E) B:=by
 subst H;refine⟨⟨B.env,B.objs⟩,cs,L s,cQ.rfl,g,fA f,⟨λp c=>?_,?_⟩,s,none,rfl,λ_=>⟨rfl,d⟩,λh=>(by cases h)⟩
 .rw[List.map_cons,a.same];rcases List.mem_cons.1 c with rfl|c
  .exact e
  .exact gW (λi b=>List.mem_cons_of_mem _ b) (a.cl _ p c)
 .rw[List.map_cons,a.same];exact List.all_eq_true.2 λi b=>List.elem_eq_true_of_mem b
theorem gF{P:List Nat}(a:Fam lids L){yid nt:Nat}{ks:List Nat}{cs:List AV}{ps:Array Tmp}{assign body:Code}{G:σ->Prop}{E:Option Code->σ->Prop}{B:St}(H:P=yid::lids)(f:ka (yid::lids) cs=true)(s:σ)(c:Code)(e:E (some c) s)
  (j:eU B.objs yid=some (.lrec .busy none ks cs ps assign body nt)) (g:∀p∈L s,eU B.objs p.1=some p.2):RFin P nt yid ks ps assign body .done (some c) false (Ac yid nt ks cs ps assign body L G E) B:=by
 subst H;refine⟨⟨B.env,B.objs⟩,cs,L s,cQ.rfl,j,fA g,⟨λp d=>?_,?_⟩,s,some c,rfl,λh=>(by cases h),λ_=>e⟩
 .rw[List.map_cons,a.same];rcases List.mem_cons.1 d with rfl|d
  .exact f
  .exact gW (λi b=>List.mem_cons_of_mem _ b) (a.cl _ p d)
 .rw[List.map_cons,a.same];exact List.all_eq_true.2 λi b=>List.elem_eq_true_of_mem b
structure RangeOk(A:St)(pid:List Nat)(nt yid:Nat)(ks:List Nat)(cs:List AV)(ps:Array Tmp)(psl:List Nat)(lids:List Nat)(L0:Xc):Prop where
 pse:ps.toList=psl
 plt:(psl.all λp=>Nat.blt p nt)=true
 free:eU A.objs yid=none
 ins:e8 A.o L0
 len:ks.length=cs.length
 env:∀(i k:Nat) (c:AV),ks[i]? =some k->cs[i]? =some c->mz A.env k=some c
 cl:ka (yid::lids) cs=true
 hi:∀i∈yid::lids,800<=i
 nin:yid∉lids
theorem DX{A:St}{nt yid:Nat}{ks:List Nat}{cs:List AV}{ps:Array Tmp}{assign body:Code}(H:Fam lids L)(S s:σ)(m:Option Code){K:Exit->St->Prop}
  (h:DT m K ⟨nw ks cs,(yid,some .dead)::(aW (L s)++A.objs)⟩):RangeK A yid nt ks ps assign body (L S) ((yid,KB m ks cs ps assign body nt)::L s) K:=by
 cases m with
 |none=>exact⟨.ready,none,cs,L s,rfl,(by intro e;cases e),H.outs H S s _,h⟩
 |some c=>exact⟨.done,some c,cs,L s,rfl,(by intro e;cases e),H.outs H S s _,h⟩
theorem n5{q:List Nat}{nt:Nat}{A:St}{g:Operand}{ps:Array Tmp}{assign body:Code}{K:Exit->St->Prop}(yid:Nat)(n:Net)(h:NetOk n)(C:cm A.s g=some (.fn 67 [.ibox n.cells 0]))(ks:List Nat)(cs:List AV)(P:List Nat)(u:P.length=2)
  (f:Fam lids L) (S:σ) (H:RangeOk A q nt yid ks cs ps P lids (L S)) (I:Nat->Nat->σ->Prop) (E:Option Code->σ->Prop)
  (e:∀(i c:Nat) (s:σ),i<n.lines.length->(c:Int)<(n.lines.getD i default).classes->a6 n i c≠[]->I i c s->
   GoodE prog (yid::lids) nt assign ⟨ul P [J i,J c] (nw ks cs),(yid,some (.lrec .ready none ks cs ps assign body nt))::aW (L s)⟩ (Ns prog (yid::lids) nt yid ks ps assign body (Ac yid nt ks cs ps assign body L (I i (c+1)) E)))
  (j:∀(i c:Nat) (s:σ),i<n.lines.length->(c:Int)<(n.lines.getD i default).classes->a6 n i c=[]->I i c s->I i (c+1) s)
  (o:∀(i c:Nat) (s:σ),i<n.lines.length->¬(c:Int)<(n.lines.getD i default).classes->I i c s->I (i+1) 0 s)
  (l:∀(i:Nat) (s:σ),¬i<n.lines.length->I i 0 s->E none s) (w:I 0 0 S)
  (z:∀m s,E m s->DT m K ⟨nw ks cs,(yid,some .dead)::(aW (L s)++A.objs)⟩):LoopE prog q nt (.rangeFunc g ps assign body) A K:=by
 have y:=DW f H.nin (ks:=ks) (ps:=ps) (assign:=assign) (body:=body) (nt:=nt) H.cl;refine qw (α:=σ×Option Code) (r:=λ_=>.tup []) (outs:=λx=>(yid,KB x.2 ks cs ps assign body nt)::L x.1) (Q:=λx=>E x.2 x.1) yid C H.free (L S) H.ins ks cs H.len H.env ?_ λx F=>DX f S x.1 x.2 (z x.2 x.1 F);refine DV y H.hi yid List.mem_cons_self n h (λi c x=>x.2=none/\I i c x.1) (λx=>E x.2 x.1) (λi c x d k t a=>?_) (λi c x d k t a=>⟨a.1,j i c x.1 d k t a.2⟩) (λi c x d k a=>⟨a.1,o i c x.1 d k a.2⟩)
  (λi x d a=>by rw[a.1];exact l i x.1 d a.2) (S,none) ⟨rfl,w⟩
 obtain⟨s,m⟩:=x;obtain⟨rfl,a⟩:=a;have v:=e i c s d k t a;rw[show yid::lids=yid::(L s).map (·.1) by rw[f.same]]at v;obtain⟨b,outs,⟨s',G,rfl,N,O⟩,B⟩:=zZ (cs:=cs) (L:=L s) H.pse (by rw[u];rfl) H.plt ⟨f.liveB s,rfl,by rw[f.same];exact H.cl,λp D=>by rw[f.same];exact gW (λi d=>List.mem_cons_of_mem _ d) (f.cl s p D)⟩ v;exact⟨b,_,⟨(s',G),rfl,λhb=>N hb,O⟩,B⟩
theorem y6{t:List Nat}{nt:Nat}{A:St}{g:Operand}{ps:Array Tmp}{assign body:Code}{K:Exit->St->Prop}(yid:Nat)(n:Net)(X:cm A.s g=some (.fn 65 [.ibox n.cells 0,.lptr 899 0]))(ks:List Nat)(cs:List AV)(P:List Nat)(z:P.length=2)
  (a:Fam lids L) (S:σ) (H:RangeOk A t nt yid ks cs ps P lids (L S)) (u:899∉yid::lids) (N:Nat) (D:Nat->Xa) (l:∀k,k<N->bx 66 [n.av,aB (D k)] (.tup [aB (D (k+1)),J 0])) (o:eU A.objs 899=some (.box [aB (D 0)])) (I:Nat->σ->Prop) (E:Option Code->σ->Prop)
  (f:∀(k:Nat) (s:σ),k<N->I k s->
   GoodE prog (yid::lids) nt assign ⟨ul P [aB (D (k+1)),J 0] (nw ks cs),(yid,some (.lrec .ready none ks cs ps assign body nt))::aW (L s)⟩ (Ns prog (yid::lids) nt yid ks ps assign body (Ac yid nt ks cs ps assign body L (λs'=>k+1<N/\I (k+1) s') E)))
  (V:0<N) (G:I 0 S)
  (R:∀d m s,E m s->DT m K ⟨nw ks cs,(yid,some .dead)::(aW ((899,.box [aB d])::L s)++A.objs)⟩):LoopE prog t nt (.rangeFunc g ps assign body) A K:=by
 have O:=DW a H.nin (ks:=ks) (ps:=ps) (assign:=assign) (body:=body) (nt:=nt) H.cl;have v:899∉lids:=λe=>u (List.mem_cons_of_mem _ e);have B:yid≠899:=λe=>u (by rw[e];exact List.mem_cons_self);have q:Fam (899::lids) (λx:Xa×σ=>(899,.box [aB x.1])::L x.2):=by
  refine⟨λx=>by rw[List.map_cons,a.same],List.nodup_cons.2 ⟨v,a.nd⟩,λx p c=>?_,λx p c=>?_⟩
  .rcases List.mem_cons.1 c with rfl|c
   .rfl
   .exact a.live _ p c
  .rcases List.mem_cons.1 c with rfl|c
   .rfl
   .exact gW (λi j=>List.mem_cons_of_mem _ j) (a.cl _ p c)
 have w:Fam (yid::899::lids) (λx:Xa×(σ×Option Code)=>(yid,KB x.2.2 ks cs ps assign body nt)::(899,.box [aB x.1])::L x.2.1):=by
  have hq:=DW q (yid:=yid) (λe=>by rcases List.mem_cons.1 e with e|e;exact B e;exact H.nin e) (ks:=ks) (ps:=ps) (assign:=assign) (body:=body) (nt:=nt) (oi (λi j=>by rcases List.mem_cons.1 j with rfl|j;exact List.mem_cons_self;exact List.mem_cons_of_mem _ (List.mem_cons_of_mem _ j)) _ H.cl);exact⟨λx=>hq.same ((x.1,x.2.1),x.2.2),hq.nd,λx=>hq.live ((x.1,x.2.1),x.2.2),λx=>hq.cl ((x.1,x.2.1),x.2.2)⟩
 refine qw (α:=Xa×(σ×Option Code)) (r:=λ_=>.tup []) (outs:=λx=>(yid,KB x.2.2 ks cs ps assign body nt)::(899,.box [aB x.1])::L x.2.1) (Q:=λx=>E x.2.2 x.2.1) yid X H.free ((899,.box [aB (D 0)])::L S) ⟨o,H.ins⟩ ks cs H.len H.env ?_
  λx hx=>DX q (D 0,S) (x.1,x.2.1) x.2.2 (R x.1 x.2.2 x.2.1 hx)
 refine BG O w u (λx p=>?_) yid List.mem_cons_self n N D l (λk x=>x.2=none/\I k x.1) (λx=>E x.2 x.1) (λk x hk y=>?_) (S,none) ⟨rfl,G⟩ V
 .simp only[List.mem_cons];constructor
  .rintro(h|h|h)
   .exact .inr (.inl h)
   .exact .inl h
   .exact .inr (.inr h)
  .rintro(h|h|h)
   .exact .inr (.inl h)
   .exact .inl h
   .exact .inr (.inr h)
 obtain⟨s,m⟩:=x;obtain⟨rfl,y⟩:=y;have F:=f k s hk y;rw[show yid::lids=yid::(L s).map (·.1) by rw[a.same]]at F;obtain⟨b,outs,⟨s',m',rfl,C,q2⟩,W⟩:=zZ (cs:=cs) (L:=L s) H.pse (by rw[z];rfl) H.plt ⟨a.liveB s,rfl,by rw[a.same];exact H.cl,λp c=>by rw[a.same];exact gW (λi j=>List.mem_cons_of_mem _ j) (a.cl s p c)⟩ F;exact⟨b,_,⟨(s',m'),rfl,λhb=>⟨(C hb).2.1,(C hb).1,(C hb).2.2⟩,q2⟩,W⟩
end
def kx(d:Xa)(i c:Nat):Int:=(d.getD i []).getD c 0
def yb(n:Net)(P:Nat->Nat->Prop):Prop:=∀i c:Nat,i<n.lines.length->(c:Int)<(n.lines.getD i default).classes->a6 n i c≠[]->P i c
def cH(n:Net)(P:Nat->Nat->Prop)(i c:Nat):Prop:=∀a b:Nat,a<n.lines.length->(b:Int)<(n.lines.getD a default).classes->a6 n a b≠[]->(a<i\/a=i/\b<c)->P a b
theorem cH.zero(n:Net)(P:Nat->Nat->Prop):cH n P 0 0:=λa b _ _ _ h=>Z
theorem cH.step{n:Net}{P:Nat->Nat->Prop}{i c:Nat}(h:cH n P i c)(g:P i c):cH n P i (c+1):=λa b H d f j=>by
 by_cases e:a=i/\b=c
 .rw[e.1,e.2];exact g
 .exact h a b H d f Z
theorem cH.skip{n:Net}{P:Nat->Nat->Prop}{i c:Nat}(h:cH n P i c)(g:a6 n i c=[]):cH n P i (c+1):=λa b d f H j=>by
 by_cases e:a=i/\b=c
 .rw[e.1,e.2,g]at H;exact absurd rfl H
 .exact h a b d f H Z
theorem cH.row{n:Net}{P:Nat->Nat->Prop}{i c:Nat}(h:cH n P i c)(j:¬(c:Int)<(n.lines.getD i default).classes):cH n P (i+1) 0:=λa b d e f g=>by
 refine h a b d e f ?_;rcases ζ a i with H|H
 .exact .inl H
 .obtain rfl:a=i:=Z;exact .inr ⟨rfl,Z⟩
theorem cH.all{n:Net}{P:Nat->Nat->Prop}{i:Nat}(h:cH n P i 0)(e:¬i<n.lines.length):yb n P:=λa b H c d=>h a b H c d Z
structure DimOk(n:Net)(d:Xa):Prop where
 len:d.length=n.lines.length
 row:∀i:Nat,i<n.lines.length->((d.getD i []).length:Int)=(n.lines.getD i default).classes
theorem ShapeOk.dim{n:Net}{d:Xa}(h:ShapeOk n d):DimOk n d:=⟨h.len,h.row⟩
def u9(n:Net)(d e:Xa):Prop:=yb n (λi c=>0<=kx d i c)/\yb n (λi c=>0<=kx e i c/\kx e i c<=kx d i c)
def MY:Option (Xa)->AV
 |some e=>.tup [aB e,.bool true]
 |none=>.tup [.nils,.bool false]
def L1(E:List (Nat×AV)):List Nat->List AV->Prop
 |[],[]=>True
 |k::ks,c::cs=>mz E k=some c/\L1 E ks cs
 |_,_=>False
theorem jE{E:List (Nat×AV)}:∀{ks:List Nat} {cs:List AV},L1 E ks cs->∀(i k:Nat) (c:AV),ks[i]? =some k->cs[i]? =some c->mz E k=some c
 |[],[],_,i,k,c,h,_=>by simp at h
 |[],_::_,h,_,_,_,_,_=>h.elim
 |_::_,[],h,_,_,_,_,_=>h.elim
 |k0::ks,c0::cs,h,0,k,c,h1,h2=>by cases h1;cases h2;exact h.1
 |k0::ks,c0::cs,h,i+1,k,c,h1,h2=>jE h.2 i k c (by simpa using h1) (by simpa using h2)
theorem wH{B:Xb}{a b:Nat}{x y:LObj}(H:eU B a=some x)(c:eU B b=some y):∀p∈[(a,x),(b,y)],eU B p.1=some p.2:=λp h=>by
 rcases List.mem_cons.1 h with rfl|h
 .exact H
 .rw[List.mem_singleton.1 h];exact c
theorem PA(a b:Nat)(H:a≠b)(x y:LObj)(d:x.live=true)(e:y.live=true)(c:eu [a,b] x)(C:eu [a,b] y):Fam [a,b] (λ_:Unit=>[(a,x),(b,y)]):=by
 refine⟨λ_=>rfl,List.nodup_cons.2 ⟨by simpa using H,List.nodup_cons.2 ⟨by simp,List.nodup_nil⟩⟩,λ_ p h=>?_,λ_ p h=>?_⟩
 .rcases List.mem_cons.1 h with rfl|h
  .exact d
  .rw[List.mem_singleton.1 h];exact e
 .rcases List.mem_cons.1 h with rfl|h
  .exact c
  .rw[List.mem_singleton.1 h];exact C
theorem G8(n:Net)(d e:Xa)(h:NetOk n)(o:ShapeOk n d)(s:DimOk n e)(r:bx 66 [n.av,aB d] (.tup [aB e,J 0])) :
  ∃x:Option (Xa),((x=some e/\u9 n d e)\/(x=none/\¬u9 n d e))/\bx 47 [n.av,aB d] (MY x):=by
 have P:=dm n d h o;obtain⟨_,_,v⟩:=wG n;have j:=PA 804 805 φ (.box [.nils]) (.box [.bool false]) rfl rfl rfl rfl;refine dp func47 ntmps47 results47 ?_ (hco:=λx=>⟨by cases x<;>rfl,by simp,rfl⟩);repeat'(first|(refine au [] [] [(804,4),(805,5)] [(2,.lptr 2 0),(3,.lptr 3 0),(4,.lptr 804 0),(5,.lptr 805 0)] [(2,some (.box n.cells)),(3,some (.box [aB d])),(804,some (.box [.nils])),(805,some (.box [.bool false]))] ⟨⟨rfl,rfl⟩,bt,bt⟩ ?_;(conv=>whnf);(refine az 2 rfl rfl rfl ?_ ?_ ?_;(solve|try refine' b8);(solve|try refine' b8));(conv=>whnf);(refine az 3 rfl rfl rfl ?_ ?_ ?_;(solve|try refine' b8);(solve|try refine' b8));(conv=>whnf))|refine' ag|fail)
 refine n5 801 n h rfl [2,3,4,5] [.ibox n.cells 0,.ibox [aB d] 0,.lptr 804 0,.lptr 805 0] [18,19] rfl j () ⟨rfl,rfl,rfl,⟨rfl,rfl,trivial⟩,rfl,jE ⟨rfl,rfl,rfl,rfl,trivial⟩,rfl,φ,φ⟩
  (λi c _=>cH n (λi c=>0<=kx d i c) i c) (λm _=>(m=none/\yb n (λi c=>0<=kx d i c))\/(m=some .ret/\¬yb n (λi c=>0<=kx d i c)))
  (λi c _ b a g H=>?_) (λi c _ _ _ g H=>H.skip g) (λi c _ _ a H=>H.row a) (λi _ b H=>.inl ⟨rfl,H.all b⟩) (cH.zero _ _) ?_
 .have p:=o.len;have q:=o.row i b;have E:(i:Int).toNat=i:=rfl;by_cases l:kx d i c<0
  .skip;repeat'(first|(refine U l λhb=>?_;conv=>whnf)|(refine Exists.intro _ (And.intro rfl ?_))|refine' ag|fail)
   all_goals try first|omega|(rw[E];omega)
   exact gF j rfl rfl () .ret (.inr ⟨rfl,λf=>absurd (f i c b a g) Z⟩) rfl (wH rfl rfl)
  .skip;repeat'(first|(refine M l λhb=>?_;conv=>whnf)|(refine Exists.intro _ (And.intro rfl ?_))|refine' ag|fail)
   all_goals try first|omega|(rw[E];omega)
   exact kw j rfl rfl () (H.step Z) rfl (wH rfl rfl)
 rintro m _ (⟨rfl,f⟩|⟨rfl,f⟩)
 .conv=>whnf
  repeat'(first|(refine au [2,3,4,5] [804,805] [] [(8,.lptr 8 0),(9,J 0)] [(8,some (.box [aB e]))] ⟨⟨rfl,rfl⟩,bt,bt⟩ ?_;(conv=>whnf);(refine az 8 rfl rfl rfl ?_ ?_ ?_;(solve|try refine' b8);(solve|try refine' b8));(conv=>whnf))|refine' ag|fail)
  refine n5 802 n h rfl [2,3,4,5,8] [.ibox n.cells 0,.ibox [aB d] 0,.lptr 804 0,.lptr 805 0,.ibox [aB e] 0] [38,39] rfl j () ⟨rfl,rfl,rfl,⟨rfl,rfl,trivial⟩,rfl,jE ⟨rfl,rfl,rfl,rfl,rfl,trivial⟩,rfl,φ,φ⟩
   (λi c _=>cH n (λi c=>0<=kx e i c/\kx e i c<=kx d i c) i c) (λm _=>(m=none/\yb n (λi c=>0<=kx e i c/\kx e i c<=kx d i c))\/(m=some .ret/\¬yb n (λi c=>0<=kx e i c/\kx e i c<=kx d i c)))
   (λi c _ b a g H=>?_) (λi c _ _ _ g H=>H.skip g) (λi c _ _ a H=>H.row a) (λi _ b H=>.inl ⟨rfl,H.all b⟩) (cH.zero _ _) ?_
  .have p:=o.len;have q:=o.row i b;have t:=s.len;have u:=s.row i b;have E:(i:Int).toNat=i:=rfl;by_cases l:kx e i c<0
   .skip;repeat'(first|(refine U l λhb=>?_;conv=>whnf)|(refine Exists.intro _ (And.intro rfl ?_))|refine' ag|fail)
    all_goals try first|omega|(rw[E];omega)
    exact gF j rfl rfl () .ret (.inr ⟨rfl,λf=>absurd (f i c b a g).1 Z⟩) rfl (wH rfl rfl)
   .by_cases hq:kx e i c>kx d i c
    .skip;repeat'(first|(refine U hq λhb=>?_;conv=>whnf)|(refine M l λhb=>?_;conv=>whnf)|(refine Exists.intro _ (And.intro rfl ?_))|refine' ag|fail)
     all_goals try first|omega|(rw[E];omega)
     exact gF j rfl rfl () .ret (.inr ⟨rfl,λf=>absurd (f i c b a g).2 Z⟩) rfl (wH rfl rfl)
    .skip;repeat'(first|(refine M hq λhb=>?_;conv=>whnf)|(refine M l λhb=>?_;conv=>whnf)|(refine Exists.intro _ (And.intro rfl ?_))|refine' ag|fail)
     all_goals try first|omega|(rw[E];omega)
     exact kw j rfl rfl () (H.step ⟨Z,Z⟩) rfl (wH rfl rfl)
  rintro m _ (⟨rfl,k⟩|⟨rfl,k⟩)
  .conv=>whnf
   repeat'(first|refine' ag|fail)
   exact ac ⟨some e,rfl,.inl ⟨rfl,f,k⟩⟩
  .conv=>whnf
   exact ac ⟨none,rfl,.inr ⟨rfl,λa=>k a.2⟩⟩
 .conv=>whnf
  exact ac ⟨none,rfl,.inr ⟨rfl,λa=>f a.1⟩⟩
theorem wI(n:Net)(d e:Xa)(h:NetOk n)(c:ShapeOk n d)(f:DimOk n e)(H:bx 66 [n.av,aB d] (.tup [aB e,J 0])) :
  ∃b:Bool,(b=true↔u9 n d e)/\bx 23 [n.av,aB d] (.bool b):=by
 have p:=G8 n d e h c f H;refine dp func23 ntmps23 results23 ?_;rcases p with⟨x,(⟨rfl,a⟩|⟨rfl,a⟩),p⟩
 .skip;repeat'(first|refine' bB|refine ab p ?_)
  exact⟨true,rfl,λ_=>a,λ_=>rfl⟩
 .skip;repeat'(first|refine' bB|refine ab p ?_)
  exact⟨false,rfl,λh=>(by cases h),λh=>absurd h a⟩
theorem Nh{n:Net}{d e:Xa}(a:DimOk n d)(c:DimOk n e)(h:∀i j,i<d.length->j<(d.getD i []).length->kx d i j=kx e i j):d=e:=by
 refine List.ext_getElem (a.len.trans c.len.symm) λi H k=>?_;have E:d.getD i []=d[i]:=by simp[H]
 have g:e.getD i []=e[i]:=by simp[k]
 have f:i<n.lines.length:=by rw[<-a.len];exact H
 have r:=a.row i f;have R:=c.row i f;rw[<-E,<-g];refine List.ext_getElem Z λj b m=>?_;have:=h i j H b;unfold kx at this;rw[ψ,ψ (l:=e.getD i []),β b,β m]at this;exact this
theorem G9(n:Net)(h:NetOk n)(d e:Xa)(q:DimOk n d)(r:DimOk n e):∃b:Bool,(b=true↔d=e)/\bx 44 [aB d,aB e] (.bool b):=by
 have z:=q.len;have A:=r.len;have B:=h.len;have hcl:∀i:Nat,i<n.lines.length->(n.lines.getD i default).classes<=6:=λj w=>(h.line _ (by simp[w])).cls.2;refine dp func44 ntmps44 results44 ?_;repeat'(first|refine' ag|fail)
 all_goals try exact bs
 refine ae (ι:={i:Nat//i<=d.length/\∀a b:Nat,a<i->b<(d.getD a []).length->kx d a b=kx e a b}) [0,1,8] [] [] ⟨0,π _,λa b y=>Z⟩ (λ⟨i,_⟩=>d.length-i) (λ⟨i,_⟩=>[(9,J i)]) (λ_=>[]) ?_ ?_
 .exact⟨⟨rfl,rfl⟩,bt,bt⟩
 .rintro⟨i,D,u⟩;conv=>whnf
  by_cases l:(i:Int)<d.length
  .have t : (i:Int).toNat=i:=rfl;have R:=q.row i Z;have C:=r.row i Z;have F:=hcl i Z;obtain⟨X,m⟩:∃X,X=d.getD i []:=⟨_,rfl⟩;obtain⟨W,s⟩:∃W,W=e.getD i []:=⟨_,rfl⟩;rw[<-m]at R;rw[<-s]at C;have E:d.getD (i:Int).toNat []=X:=by rw[t,m]
   have c:e.getD (i:Int).toNat []=W:=by rw[t,s]
   repeat'(first|(refine U l λhb=>?_;conv=>whnf)|refine' ag|fail)
   all_goals try first|exact bs|(rw[E];unfold ah;omega)|(rw[c];unfold ah;omega)
   refine ae (ι:={j:Nat//j<=X.length/\∀b:Nat,b<j->kx d i b=kx e i b}) [0,1,5,8,9] [] [] ⟨0,π _,λb hb=>Z⟩ (λ⟨j,_⟩=>X.length-j) (λ⟨j,_⟩=>[(16,J X.length),(17,J j)]) (λ_=>[]) ?_ ?_
   .refine⟨⟨rfl,rfl⟩,?_,?_⟩;all_goals((refine' b9)<;>first|exact Ξ (by rw[E])|exact bt)
   .rintro⟨j,w,v⟩;conv=>whnf
    by_cases f:(j:Int)<X.length
    .by_cases H:(d.getD (i:Int).toNat []).getD (j:Int).toNat 0=(e.getD (i:Int).toNat []).getD (j:Int).toNat 0
     .have p:∀b:Nat,b<j+1->kx d i b=kx e i b:=λb hb=>by
       rcases ζ b j with g|g
       .exact v b g
       .obtain rfl:b=j:=Z;exact H
      repeat'(first|(refine ϕ H λhb=>?_;conv=>whnf)|(refine U f λhb=>?_;conv=>whnf)|(exact aH [] ⟨j+1,Z,p⟩)|refine' ag|fail)
      all_goals try first|exact bs|(rw[E];omega)|(rw[c];omega)
     .skip;repeat'(first|(refine ϑ H λhb=>?_;conv=>whnf)|(refine U f λhb=>?_;conv=>whnf)|refine' ag|fail)
      all_goals try first|exact bs|(rw[E];omega)|(rw[c];omega)
      all_goals exact ac ⟨false,rfl,λh=>(by cases h),λh=>absurd (by rw[h]) H⟩
    .have o:∀a b:Nat,a<i+1->b<(d.getD a []).length->kx d a b=kx e a b:=λa b y hq=>by
      rcases ζ a i with g|g
      .exact u a b g hq
      .have k:a=i:=Z;rw[k];rw[k,<-m]at hq;exact v b Z
     repeat'(first|(refine M f λhb=>?_;conv=>whnf)|(exact aH [] ⟨i+1,Z,o⟩)|refine' ag|fail)
     all_goals try exact bs
  .skip;repeat'(first|(refine M l λhb=>?_;conv=>whnf)|refine' ag|fail)
   exact ac ⟨true,rfl,λ_=>Nh q r λi j g x=>u i j Z x,λ_=>rfl⟩
def KO:Option (Xa)->AV
 |some d=>aB d
 |none=>.nils
theorem IS(i:List Nat)(x:Option (Xa)):gu i (KO x)=true:=by cases x<;>rfl
def Ad:Option (Xa×Nat)->Option (Xa)×Int×Int
 |some (d,k)=>(some d,k,0)
 |none=>(none,0,5)
def HX(x:Option (Xa×Nat)):AV:=.tup [KO (Ad x).1,J (Ad x).2.1,J (Ad x).2.2]
def nY(n:Net)(D:Nat->Xa)(k:Nat):Prop:=∀j,1<=j->j<=k->yb n (λi c=>0<=kx (D j) i c)/\D (j-1)≠D j
def q7(n:Net)(D:Nat->Xa)(r:Nat):Option (Xa×Nat)->Prop
 |some (d,k)=>1<=k/\k<=r/\d=D k/\nY n D (k-1)/\yb n (λi c=>0<=kx (D k) i c)/\D (k-1)=D k
 |none=>(∃k,1<=k/\k<=r/\nY n D (k-1)/\¬yb n (λi c=>0<=kx (D k) i c))\/nY n D r
theorem nY.next{n:Net}{D:Nat->Xa}{k:Nat}(h:nY n D k)(d:yb n (λi c=>0<=kx (D (k+1)) i c))(b:D k≠D (k+1)):nY n D (k+1):=λj a e=>by
 rcases ζ k j with H|H
 .obtain rfl:j=k+1:=Z;exact⟨d,b⟩
 .exact h j a H
def Ae(s:Xa×Int×Option (Xa)×Int×Int):Xc :=
 [(804,.box [KO s.2.2.1]),(805,.box [J s.2.2.2.1]),(806,.box [J s.2.2.2.2]),(807,.box [aB s.1]),(808,.box [J s.2.1])]
theorem mq:Fam [804,805,806,807,808] Ae:=by
 refine⟨λ_=>rfl,φ,λs p h=>?_,λs p h=>?_⟩;all_goals
  unfold Ae at h;simp only[List.mem_cons,List.not_mem_nil,or_false]at h;rcases h with rfl|rfl|rfl|rfl|rfl
 all_goals first|rfl|(show ka _ [KO _]=true;unfold ka;rw[IS];rfl)
def uA(last n:Xa)(c e:Int):Xc:=[(804,.box [.nils]),(805,.box [J 0]),(806,.box [J e]),(807,.box [aB last]),(808,.box [J c]),(809,.box [aB n])]
theorem q8(last n:Xa)(c:Int):Fam [804,805,806,807,808,809] (uA last n c):=by
 refine⟨λ_=>rfl,φ,λs p h=>?_,λs p h=>?_⟩;all_goals
  unfold uA at h;simp only[List.mem_cons,List.not_mem_nil,or_false]at h;rcases h with rfl|rfl|rfl|rfl|rfl|rfl
 all_goals rfl
theorem uB{B:Xb}{s:Xa×Int×Option (Xa)×Int×Int}(H:eU B 804=some (.box [KO s.2.2.1]))(a:eU B 805=some (.box [J s.2.2.2.1]))(b:eU B 806=some (.box [J s.2.2.2.2]))(c:eU B 807=some (.box [aB s.1]))(d:eU B 808=some (.box [J s.2.1])):∀p∈Ae s,eU B p.1=some p.2:=λp h=>by
 unfold Ae at h;simp only[List.mem_cons,List.not_mem_nil,or_false]at h;rcases h with rfl|rfl|rfl|rfl|rfl<;>assumption
theorem Af{B:Xb}{last n:Xa}{c e:Int}(H:eU B 804=some (.box [.nils]))(a:eU B 805=some (.box [J 0]))(b:eU B 806=some (.box [J e]))(f:eU B 807=some (.box [aB last]))(g:eU B 808=some (.box [J c]))(d:eU B 809=some (.box [aB n])):∀p∈uA last n c e,eU B p.1=some p.2:=λp h=>by
 unfold uA at h;simp only[List.mem_cons,List.not_mem_nil,or_false]at h;rcases h with rfl|rfl|rfl|rfl|rfl|rfl<;>assumption
theorem DY(n:Net)(h:NetOk n)(R:Nat)(z:1<=R)(O:R<=60)(D:Nat->Xa)(I:D 0=r8 n (λ_ _=>0))(F:∀k,k<=R->DimOk n (D k))(g:∀k,k<R->bx 66 [n.av,aB (D k)] (.tup [aB (D (k+1)),J 0])) :
  ∃x,q7 n D R x/\bx 21 [n.av,J R] (HX x):=by
 have W:=iV n h;have P:=DB n h;obtain⟨_,_,X⟩:=wG n;obtain⟨_,_,Q⟩:=BH n (D 0);have q:AvLe (.isl n.lines.length 1 (λi=>dZ (ff n (λ_ _=>0) i))) (aB (D 0)):=by
  rw[I];exact Γ (iG n _).symm λi o=>by rw[gD n _ o]
 refine dp func21 ntmps21 results21 ?_ (hco:=λx=>⟨by rcases x with _|⟨d,k⟩<;>rfl,by simp,rfl⟩);repeat'(first|(refine au [] [] [(804,4),(805,5),(806,6),(807,7),(808,8)] [(2,.lptr 2 0),(3,.lptr 3 0),(4,.lptr 804 0),(5,.lptr 805 0),(6,.lptr 806 0),(7,.lptr 807 0),(8,.lptr 808 0)] [(2,some (.box n.cells)),(3,some (.box [J R])),(804,some (.box [.nils])),(805,some (.box [J 0])),(806,some (.box [J 0])),(807,some (.box [.osl 12 n.lines.length])),(808,some (.box [J 0])),(12,some (.arr n.lines.length 1 (λi=>dZ (ff n (λ_ _=>0) i)) 22))] ⟨⟨rfl,rfl⟩,?_,?_⟩ ?_;(solve|((refine' b9)<;>first|exact ObLe.box (.cons q .nil)|exact bt));(solve|((refine' b9)<;>first|exact ObLe.box (.cons q .nil)|exact bt));(conv=>whnf);(refine az 2 rfl rfl rfl ?_ ?_ ?_;(solve|try refine' b8);(solve|try refine' b8));(conv=>whnf);(refine az 3 rfl rfl rfl ?_ ?_ ?_;(solve|try refine' b8);(solve|try refine' b8));(conv=>whnf);(refine az 12 rfl rfl (λ_ _=>rfl) ?_ ?_ ?_;(solve|try refine' b8);(solve|try refine' b8));(conv=>whnf);(refine au [2,3,4,5,6,7,8] [804,805,806,808] [] [] [(807,some (.box [aB (D 0)]))] ⟨⟨rfl,rfl⟩,?_,?_⟩ ?_;(solve|((refine' b9)<;>first|exact ObLe.box (.cons q .nil)|exact bt));(solve|((refine' b9)<;>first|exact ObLe.box (.cons q .nil)|exact bt)));(conv=>whnf))|refine' ag|(refine dF P rfl ?_;conv=>whnf)|(refine dF Q rfl ?_;conv=>whnf))
 all_goals try first|omega|(exfalso;omega)
 have A:(0:Nat)<R:=z;refine y6 801 n rfl [2,3,4,5,6,7,8] [.ibox n.cells 0,.ibox [J R] 0,.lptr 804 0,.lptr 805 0,.lptr 806 0,.lptr 807 0,.lptr 808 0] [27,28] rfl mq (D 0,0,none,0,0) ⟨rfl,rfl,rfl,⟨rfl,rfl,rfl,rfl,rfl,trivial⟩,rfl,jE ⟨rfl,rfl,rfl,rfl,rfl,rfl,rfl,trivial⟩,rfl,φ,φ⟩ φ
  R D g rfl (λk s=>s=(D k,(k:Int),none,0,0)/\nY n D k)
  (λm s=>(m=some .ret/\∃x,q7 n D R x/\s.2.2=Ad x)\/(m=some (.exit 0)/\s.2.2=(none,0,0)/\q7 n D R none)) ?_ A ⟨rfl,λj S V=>Z⟩ ?_
 .rintro k s w ⟨rfl,p⟩;have K:(k:Int)+1<=60:=Z;refine fg ?_;conv=>whnf
  refine fg ?_;conv=>whnf
  refine⟨_,rfl,?_⟩;repeat'(first|(refine au [2,3,4,5,6,7,8,10] [801,804,805,806,807,808] [(809,9)] [(9,.lptr 809 0)] [(809,some (.box [aB (D (k+1))]))] ⟨⟨rfl,rfl⟩,bt,bt⟩ ?_;conv=>whnf)|refine' ag|fail)
  all_goals try first|omega|(exfalso;omega)|(unfold ah;dsimp only;omega)
  have f:=F (k+1) Z;refine n5 802 n h rfl [2,3,4,5,6,7,8,9,10] [.ibox n.cells 0,.ibox [J R] 0,.lptr 804 0,.lptr 805 0,.lptr 806 0,.lptr 807 0,.lptr 808 0,.lptr 809 0,J 0] [36,37] rfl (q8 (D k) (D (k+1)) ((k:Int)+1)) 0 ⟨rfl,rfl,rfl,⟨rfl,rfl,rfl,rfl,rfl,rfl,trivial⟩,rfl,jE ⟨rfl,rfl,rfl,rfl,rfl,rfl,rfl,rfl,rfl,trivial⟩,rfl,φ,φ⟩
   (λi c e=>e=0/\cH n (λi c=>0<=kx (D (k+1)) i c) i c) (λm e=>(m=none/\e=0/\yb n (λi c=>0<=kx (D (k+1)) i c))\/(m=some .ret/\e=5/\¬yb n (λi c=>0<=kx (D (k+1)) i c)))
   (λi c e o v y H=>?_) (λi c e _ _ y H=>⟨H.1,H.2.skip y⟩) (λi c e _ v H=>⟨H.1,H.2.row v⟩) (λi e o H=>.inl ⟨rfl,H.1,H.2.all o⟩) ⟨rfl,cH.zero _ _⟩ ?_
  .obtain⟨rfl,H⟩:=H;have L:=f.len;have N:=f.row i o;have E:(i:Int).toNat=i:=rfl;by_cases G:kx (D (k+1)) i c<0
   .skip;repeat'(first|(refine U G λhb=>?_;conv=>whnf)|(refine Exists.intro _ (And.intro rfl ?_))|refine' ag|fail)
    all_goals try first|omega|(rw[E];omega)
    exact gF (s:=5) (q8 (D k) (D (k+1)) ((k:Int)+1)) rfl rfl .ret (.inr ⟨rfl,rfl,λl=>absurd (l i c o v y) Z⟩) rfl (Af rfl rfl rfl rfl rfl rfl)
   .skip;repeat'(first|(refine M G λhb=>?_;conv=>whnf)|(refine Exists.intro _ (And.intro rfl ?_))|refine' ag|fail)
    all_goals try first|omega|(rw[E];omega)
    exact kw (s:=0) (q8 (D k) (D (k+1)) ((k:Int)+1)) rfl rfl ⟨rfl,H.step Z⟩ rfl (Af rfl rfl rfl rfl rfl rfl)
  rintro m e (⟨rfl,rfl,l⟩|⟨rfl,rfl,l⟩)
  .conv=>whnf
   obtain⟨b,hb,p4⟩:=G9 n h (D k) (D (k+1)) (F k Z) f;by_cases a:D k=D (k+1)
   .have u:=hb.2 a;subst u;repeat'(first|refine' ag|fail)
    all_goals try first|omega|(unfold ah;dsimp only;omega)
    exact gF (s:=(D k,(k:Int)+1,some (D (k+1)),(k:Int)+1,0)) mq rfl rfl .ret (.inl ⟨rfl,some (D (k+1),k+1),⟨Z,Z,rfl,p,l,a⟩,rfl⟩) rfl (uB rfl rfl rfl rfl rfl)
   .have t:b=false:=by
     cases b with
     |false=>rfl
     |true=>exact absurd (hb.1 rfl) a
    subst t;by_cases w:(k:Int)+1=R
    .skip;repeat'(first|(refine U w λhb=>?_;conv=>whnf)|refine' ag|fail)
     all_goals try first|omega|(unfold ah;dsimp only;omega)
     exact gF (s:=(D k,(k:Int)+1,none,0,0)) mq rfl rfl (.exit 0) (.inr ⟨rfl,rfl,.inr (by rw[(Z:R=k+1)];exact p.next l a)⟩) rfl (uB rfl rfl rfl rfl rfl)
    .skip;repeat'(first|(refine M w λhb=>?_;conv=>whnf)|refine' ag|fail)
     all_goals try first|omega|(unfold ah;dsimp only;omega)
     exact kw (s:=(D (k+1),(k:Int)+1,none,0,0)) mq rfl rfl ⟨Z,rfl,p.next l a⟩ rfl (uB rfl rfl rfl rfl rfl)
  .conv=>whnf
   exact gF (s:=(D k,(k:Int)+1,none,0,5)) mq rfl rfl .ret (.inl ⟨rfl,none,.inl ⟨k+1,Z,Z,p,l⟩,rfl⟩) rfl (uB rfl rfl rfl rfl rfl)
 .rintro d m ⟨last,C,r⟩ (⟨rfl,x,B,a⟩|⟨rfl,a,B⟩)
  .conv=>whnf
   dsimp only at a;subst a;exact ac ⟨x,rfl,B⟩
  .conv=>whnf
   repeat'(first|refine' ag|fail)
   dsimp only at a;subst a;exact ac ⟨none,rfl,B⟩
end Go.Nc