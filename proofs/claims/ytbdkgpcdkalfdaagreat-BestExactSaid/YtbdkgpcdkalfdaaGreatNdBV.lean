/- Parts. -/
import Derived.Test.YtbdkgpcdkalfdaaGreatNdBN
namespace Go.Nc
def e7:Xc->Nat->Option LObj
 |[],_=>none
 |(k,v)::r,n=>bif Nat.beq n k then some v else e7 r n
def cG(w:World)(Im:Nat->Prop)(i:Xc)(ρ:Loc)(nt:Nat):Frm:=⟨⟨w,none⟩,Im,i.map (·.1),ρ,nt⟩
structure CallSpec(P:Program)(f:FuncId)(args:List AV)(ins:Xc)(r:AV)(outs:Xc):Prop where
 enter:∀(xs:Array Value) (w:World),(callFunc f xs).run P w=.ok (.enter f xs) w
 icl:∀id ob,e7 ins id=some ob->∀i,NamesO i ob->e7 ins i≠none
 live:∀id ob,e7 ins id=some ob->ob.live=true
 calls:∀(w:World) (ρ:Loc) (Im:Nat->Prop) (xs:Array Value),Mem (cG w Im ins ρ 0) ρ Im (e7 ins) w->Cons ρ Im w.heap args xs->
  Calls P f xs w λe w'=>∃y ρ' Im',e=.returned y/\Con ρ' Im' w'.heap r y/\(∀i,Names i r->e7 outs i≠none)/\Mem (cG w Im ins ρ 0) ρ' Im' (e7 outs) w'
theorem RelAt.updI{X:Frm}{ρ K:Loc}{Im p:Nat->Prop}{s:Nat->Option AV}{o o':Xd}{a:Act}{w W:World}(h:RelAt X ρ Im s o a w)(D:Nat->Prop)
  (hI:∀b,Im b->p b) (A:∀b,p b->Im b\/w.heap.size<=b\/∃id ob,D id/\o id=some ob/\ob.live=true/\(ρ id).1=some b) (hI3:∀b,p b->b<W.heap.size)
  (hos:W.os=w.os) (G:W.tape=w.tape) (S:W.output=w.output) (y:w.heap.size<=W.heap.size)
  (j:∀b,b<w.heap.size->(∀id ob,D id->o id=some ob->ob.live=true->(ρ id).1≠some b)->W.heap[b]? =w.heap[b]?)
  (f:∀id,o id≠none->K id=ρ id) (ho:∀id,¬D id->o' id=o id) (B:∀id,o id≠none->o' id≠none)
  (t:∀id ob,D id->o' id=some ob->Fresh X K p o' W id ob) (hlr:∀(l:Nat) (r:Loop),w.heap[l]? =some (.loop r)->∃st pe,W.heap[l]? =some (.loop { r with state:=st,pending:=pe })):RelAt X K p s o' a W:=by
 have R:∀{b:Nat} {x:Obj},w.heap[b]? =some x->b<w.heap.size:=λh=>(Array.getElem?_eq_some_iff.1 h).1;have Q:∀b,Im b->W.heap[b]? =w.heap[b]?:=λb hb=>j b (h.imlt b hb) λid ob _ H d N=>(h.own id ob b H d N).1 hb;have F:∀id ob,¬D id->o id=some ob->ob.live=true->∀b,(ρ id).1=some b->W.heap[b]? =w.heap[b]?:=λid ob E H d b hb=>
  j b (h.own id ob b H d hb).2.1 λI O e c u m=>E (by rw[h.inj id I ob O b H d c u hb m];exact e)
 have C:∀id ob,¬D id->o' id=some ob->o id=some ob:=λid ob E H=>by rw[<-ho id E];exact H
 refine
  {objs:=fun id ob H=>?_,own:=fun id ob b H d hb=>?_,inj:=fun id I ob O b H d c u hb m=>?_,ocl:=fun id ob H i n=>?_,imlt:=hI3,im0:=fun b hb=>hI b (h.im0 b hb),
   imf:=λb hb=>?_,
   os:=hos.trans h.os,tape:=G.trans h.tape,output:=S.trans h.output,size:=Nat.le_trans h.size y,frame:=λb hb V=>?_,pin:=λid V=>?_,slots:=λk v hv=>?_,scl:=λk v hv i n=>B i (h.scl k v hv i n),
   defers:=h.defers.mono (fun D t=>j D (R t) fun id ob e H d N=>((h.objs id ob H).noSys d N).1 _ t) (fun D t hn n=>by
    rcases A D n with g|g|⟨id,ob,_,z,L,q⟩
    .exact hn g
    .have:=R t;omega
    .exact((h.objs id ob z).noSys L q).1 _ t),nt:=h.nt,
   lrc:=λl r d=>by
    obtain⟨st,pe,g⟩:=h.lrc l r d;obtain⟨st2,pe2,z⟩:=hlr l _ g;exact⟨st2,pe2,z⟩,
   rnd:=h.rnd }
 .by_cases e:D id
  .exact(t id ob e H).con
  .have H:=C id ob e H;by_cases d:ob.live=true
   .exact(h.objs id ob H).move hI Q (F id ob e H d) (f id (by rw[H];simp)) λi n=>f i (h.ocl id ob H i n)
   .cases ob with
    |dead=>exact .dead
    |_=>simp[LObj.live]at d
 .by_cases e:D id
  .exact(t id ob e H).own d b hb
  .have H:=C id ob e H;rw[f id (by rw[H];simp)]at hb;obtain⟨g,z,L⟩:=h.own id ob b H d hb;refine⟨λn=>?_,Nat.lt_of_lt_of_le z y,L⟩;rcases A b n with q|q|⟨I,O,q,h5,h6,h7⟩
   .exact g q
   .omega
   .have:=h.inj id I ob O b H d h5 h6 hb h7;exact e (by rw[this];exact q)
 .by_cases e:D id
  .exact((t id ob e H).inj d b hb I O c u m).symm
  .by_cases P:D I
   .exact(t I O P c).inj u b m id ob H d hb
   .have H:=C id ob e H;have c:=C I O P c;rw[f id (by rw[H];simp)]at hb;rw[f I (by rw[c];simp)]at m;exact h.inj id I ob O b H d c u hb m
 .by_cases e:D id
  .exact(t id ob e H).names i n
  .exact B i (h.ocl id ob (C id ob e H) i n)
 .rcases A b hb with hb|hb|⟨id,ob,_,g,z,L⟩
  .exact h.imf b hb
  .exact .inr (.inl (Nat.le_trans h.size hb))
  .rcases(h.own id ob b g z L).2.2 with q|q
   .exact .inr (.inl q)
   .exact .inr (.inr ⟨id,q,by rw[<-(h.pin id q).1];exact L⟩)
 .rw[j b (Nat.lt_of_lt_of_le hb h.size) λid ob _ H d N=>?_]
  .exact h.frame b hb V
  .rcases(h.own id ob b H d N).2.2 with g|g
   .omega
   .exact V id g (by rw[<-(h.pin id g).1];exact N)
 .obtain⟨g,z⟩:=h.pin id V;exact⟨by rw[f id z];exact g,B id z⟩
 .obtain⟨x,hx,hc⟩:=h.slots k v hv;exact⟨x,hx,(hc.mono hI Q).reloc λi n=>f i (h.scl k v hv i n)⟩
theorem bJ{l:Xc}{i:Nat}:e7 l i≠none↔i∈l.map (·.1):=by
 induction l with
 |nil=>simp[e7]
 |cons p r ih=>
  obtain⟨k,v⟩:=p;simp only[e7,aJ,List.map_cons,List.mem_cons];split
  .rename_i h;simp[h]
  .rename_i h;rw[ih];simp[h]
def dT(o:Xd):Xc->Prop
 |[]=>True
 |(id,ob)::r=>o id=some ob/\dT o r
def fI(o:Xd)(i:Xc):Xc->Prop
 |[]=>True
 |(id,_)::r=>(match e7 i id with |some _=>True|none=>o id=none)/\fI o i r
theorem il{o:Xd}{i:Xc}(h:dT o i):∀id ob,e7 i id=some ob->o id=some ob:=by
 induction i with
 |nil=>intro id ob h;simp[e7]at h
 |cons p r ih=>
  obtain⟨k,v⟩:=p;intro id ob H;simp only[e7,aJ]at H;split at H
  .rename_i a;subst a;simp only[Option.some.injEq]at H;subst H;exact h.1
  .exact ih h.2 id ob H
theorem xm{o:Xd}{i outs:Xc}(h:fI o i outs):∀id,e7 outs id≠none->e7 i id≠none\/o id=none:=by
 induction outs with
 |nil=>intro id h;simp[e7]at h
 |cons p r ih=>
  obtain⟨k,v⟩:=p;intro id H;simp only[e7,aJ]at H;split at H
  .rename_i a;subst a;have:=h.1;cases hi:e7 i id with
   |some _=>exact .inl ν
   |none=>rw[hi]at this;exact .inr this
  .exact ih h.2 id H
def bg(l:Xc):Xb:=match l with
 |[]=>[]
 |(i,ob)::r=>(i,some ob)::bg r
theorem dq(l:Xc)(o:Xd)(i:Nat):gw (bg l) o i=match e7 l i with |some ob=>some ob|none=>o i:=by
 induction l with
 |nil=>rfl
 |cons p r ih=>
  obtain⟨k,v⟩:=p;simp only[bg,gw,e7,aJ];split
  .rfl
  .exact ih
section
variable {P:Program} {X:Frm} {ops:Array Oper} {T:kb}
theorem RelAt.callK{ρ:Loc}{Im:Nat->Prop}{s:Nat->Option AV}{o:Xd}{a:Act}{w:World}(v:RelAt X ρ Im s o a w){I outs:Xc}(S:∀id ob,e7 I id=some ob->∀i,NamesO i ob->e7 I i≠none)
  (live:∀id ob,e7 I id=some ob->ob.live=true) (C:dT o I) (F:fI o I outs) :
  Mem (cG w Im I ρ 0) ρ Im (e7 I) w/\∀(W:World) (k:Loc) (x:Nat->Prop),Mem (cG w Im I ρ 0) k x (e7 outs) W->∃t:Loc,(∀i,e7 outs i≠none->t i=k i)/\(∀i,e7 outs i≠none->gw (bg outs) o i≠none)/\RelAt X t x s (gw (bg outs) o) a W:=by
 have n:=il C;have ho:=xm F;have E:Mem (cG w Im I ρ 0) ρ Im (e7 I) w :=
  {objs:=fun id ob h=>v.objs id ob (n id ob h),own:=fun id ob b h f hb=>⟨(v.own id ob b (n id ob h) f hb).1,(v.own id ob b (n id ob h) f hb).2.1,.inr (bJ.1 (by rw[h];simp))⟩,
   inj:=λid g ob O b h f h' u hb q=>v.inj id g ob O b (n id ob h) f (n g O h') u hb q,ocl:=S,imlt:=v.imlt,im0:=λb hb=>hb,imf:=λb hb=>.inl hb,
   os:=rfl,tape:=rfl,output:=rfl,size:=π _,frame:=λ_ _ _=>rfl,pin:=λid G=>⟨rfl,bJ.2 G⟩,lrc:=λl r h=>⟨r.state,r.pending,h⟩,rnd:=λl h=>by cases h }
 refine⟨E,λW k x p=>?_⟩;have m:∀id,e7 I id≠none->k id=ρ id/\e7 outs id≠none:=λid h=>p.pin id (bJ.1 h);let t:Loc:=λi=>match e7 outs i with |some _=>k i|none=>ρ i
 have e:∀i,e7 outs i≠none->t i=k i:=λi h=>by
  show(match e7 outs i with |some _=>k i|none=>ρ i)=k i;cases f:e7 outs i with
  |some _=>rfl
  |none=>exact absurd f h
 have B:∀i,o i≠none->t i=ρ i:=λi h=>by
  show(match e7 outs i with |some _=>k i|none=>ρ i)=ρ i;cases f:e7 outs i with
  |some _=>
   rcases ho i (by rw[f];simp)with D|D
   .exact(m i D).1
   .exact absurd D h
  |none=>rfl
 have L:∀i,o i≠none->gw (bg outs) o i≠none:=λi h=>by
  rw[dq];cases e7 outs i<;>simp[h]
 have A:∀i,e7 outs i≠none->gw (bg outs) o i≠none:=λi h=>by
  rw[dq];cases f:e7 outs i with
  |some _=>simp
  |none=>exact absurd f h
 have K : RelAt X t x s (gw (bg outs) o) a W:=by
  refine v.updI (fun i=>e7 outs i ≠ none) p.im0 (fun b hb=>(p.imf b hb).imp id (.imp id fun ⟨id,G,N⟩=>by
   have d:=bJ.2 G;obtain⟨ob,H⟩:=Option.ne_none_iff_exists'.1 d;exact⟨id,ob,(m id d).2,n id ob H,live id ob H,N⟩)) p.imlt p.os p.tape p.output p.size (λb hb R=>p.frame b hb λid G N=>?_) B (λi n=>?_) L (λi ob n H=>?_) p.lrc
  .have d:=bJ.2 G;obtain⟨ob,H⟩:=Option.ne_none_iff_exists'.1 d;exact R id ob (m id d).2 (n id ob H) (live id ob H) N
  .rw[dq];simp only[ne_eq,Classical.not_not]at n;rw[n]
  .rw[dq]at H;cases f:e7 outs i with
   |none=>exact absurd f n
   |some ob2=>
    rw[f]at H;simp only[Option.some.injEq]at H;subst H;refine⟨(p.objs i ob2 f).move (λb hb=>hb) (λb hb=>rfl) (λb hb=>rfl) (e i n) (λj Q=>e j (p.ocl i ob2 f j Q)),λj Q=>A j (p.ocl i ob2 f j Q),λy b hb=>?_,λy b hb g O c u q=>?_⟩
    .rw[e i n]at hb;obtain⟨D,V,z⟩:=p.own i ob2 b f y hb;refine⟨D,V,?_⟩;rcases z with z|z
     .exact .inl (Nat.le_trans v.size z)
     .have d:=bJ.2 z;obtain⟨ob,H⟩:=Option.ne_none_iff_exists'.1 d;exact(v.own i ob b (il C i ob H) (live i ob H) (by rw[<-(m i d).1];exact hb)).2.2
    .rw[e i n]at hb;rw[dq]at c;cases hl2:e7 outs g with
     |some ob3=>
      rw[hl2]at c;simp only[Option.some.injEq]at c;subst c;rw[e g (by rw[hl2];simp)]at q;exact p.inj g i _ _ b hl2 u f y q hb
     |none=>
      rw[hl2]at c;simp only at c;rw[B g (by rw[c];simp)]at q;obtain⟨_,V,_⟩:=v.own g O b c u q;rcases(p.own i ob2 b f y hb).2.2 with z|z
      .have:(cG w Im I ρ 0).w0.heap.size=w.heap.size:=rfl;omega
      .have d:=bJ.2 z;obtain⟨ob,H⟩:=Option.ne_none_iff_exists'.1 d;have:=v.inj g i O ob b c u (il C i ob H) (live i ob H) q (by rw[<-(m i d).1];exact hb);subst this;exact absurd hl2 n
 exact⟨t,e,A,K⟩
theorem RelAt.call{ρ:Loc}{Im:Nat->Prop}{s:Nat->Option AV}{o:Xd}{a:Act}{w:World}(v:RelAt X ρ Im s o a w){f:FuncId}{args:List AV}{c outs:Xc}{r:AV}(k:CallSpec P f args c r outs)
  (j:dT o c) (d:fI o c outs) {x:Array Value} (z:Cons ρ Im w.heap args x) :
  Calls P f x w λe W=>∃y b I,e=.returned y/\RelAt X b I s (gw (bg outs) o) a W/\Con b I W.heap r y/\∀i,Names i r->gw (bg outs) o i≠none:=by
 obtain⟨H,h⟩:=v.callK k.icl k.live j d;refine(k.calls w ρ Im x H z).mono λe W=>?_;rintro⟨y,b,I,rfl,t,m,u⟩;obtain⟨l,n,p,q⟩:=h W b I u;exact⟨y,l,I,rfl,q,t.reloc λi g=>n i (m i g),λi g=>p i (m i g)⟩
structure YSpec(P:Program)(yid:Nat)(vs:List AV)(ins:Xc)(b:Bool)(outs:Xc):Prop where
 icl:∀id ob,e7 ins id=some ob->∀i,NamesO i ob->e7 ins i≠none
 live:∀id ob,e7 ins id=some ob->ob.live=true
 yld:∀(w:World) (ρ:Loc) (Im:Nat->Prop) (xs:Array Value) (l:Nat),Mem (cG w Im ins ρ 0) ρ Im (e7 ins) w->Cons ρ Im w.heap vs xs->(ρ yid).1=some l->
  ∃f tmps assign body,(Instr.yield l xs).run P w=.ok (.round l f tmps assign body) w/\RoundIn Fence.wide 0 P l f tmps assign body w λe w'=>∃ρ' Im',e=.returned (.bool b)/\Mem (cG w Im ins ρ 0) ρ' Im' (e7 outs) w'
structure vYield(P:Program)(yid:Nat)(vs:List AV)(o:Xd)(k:List Nat->AV->Xb->Prop):Prop where
 ex:∃b ins outs,YSpec P yid vs ins b outs/\dT o ins/\fI o ins outs/\k (ins.map (·.1)++outs.map (·.1)) (.bool b) (bg outs)
structure vCall(P:Program)(f:FuncId)(vs:List AV)(o:Xd)(k:List Nat->AV->Xb->Prop):Prop where
 ex:∃r ins outs,CallSpec P f vs ins r outs/\dT o ins/\fI o ins outs/\k (ins.map (·.1)++outs.map (·.1)) r (bg outs)
theorem fV{o o':Xd}{I:Xc}(a:∀i∈I.map (·.1),o' i=o i)(h:dT o I):dT o' I:=by
 induction I with
 |nil=>trivial
 |cons p r ih=>exact⟨(a p.1 ν).trans h.1,ih (λi H=>a i (by simp at H⊢;exact .inr H)) h.2⟩
theorem gM{o o':Xd}{I outs:Xc}(a:∀i∈outs.map (·.1),o' i=o i)(h:fI o I outs):fI o' I outs:=by
 induction outs with
 |nil=>trivial
 |cons p r ih=>
  refine⟨?_,ih (λi H=>a i (by simp at H⊢;exact .inr H)) h.2⟩;have:=h.1;cases hl:e7 I p.1 with
  |some _=>trivial
  |none=>rw[hl]at this;exact(a p.1 ν).trans this
theorem xn{o:Oper}{f:FuncId}{x:Array Operand}{K:Array TypeId}(E:o.op=.call { callee:=.value (.func f),args:=x,argTypes:=K }){A:St}(C:lk ops o A.s)(B:co X.nt o){v:List AV}(F:dn A.s x.toList=some v)
  {k:List Nat->AV->Xb->Prop} (h:vCall P f v A.o k):∃R r W,k R r W/\bD P X ops o A.s A.o (dj ops o (ja x.toList) R r W):=by
 obtain⟨r,G,outs,s,j,d,D⟩:=h;refine⟨_,_,_,D,cT C B λs' o' l c ρ Im a w q=>?_⟩;have m:dn s' x.toList=some v:=(d6 l).trans F;have p:=(q.opds m).1;have e:(x.toList.map a.eval).toArray=x.map a.eval:=by apply Array.ext';simp
 rw[e]at p;have H:=q.call s (fV (λi b=>c i (by simp at b⊢;exact .inl b)) j) (gM (λi b=>c i (by simp at b⊢;exact .inr b)) d) p;have g:(execOp a.eval o).run P w=.ok (.enter f (x.map a.eval)) w:=by
  simp[execOp,E,resolve,Act.eval,Deferred.ofValue,invoke,s.enter]
 unfold Oper.wp;rw[g];refine H.mono λe L=>?_;rintro⟨y,n,I,rfl,t,u,z⟩;exact⟨y,n,I,rfl,t,u,z⟩
theorem vp{o:Oper}{t:Nat}{x:Array Operand}{ts:Array TypeId}(ho:o.op=.call { callee:=.value (.tmp t),args:=x,argTypes:=ts }){A:St}(hg:lk ops o A.s)(R:co X.nt o){d:Nat}{V:List AV}(hf:A.s t=some (.yld d))(hv:dn A.s x.toList=some V)
  {k:List Nat->AV->Xb->Prop} (h:vYield P d V A.o k):∃W r wo,k W r wo/\bD P X ops o A.s A.o (dj ops o (t::ja x.toList) W r wo):=by
 obtain⟨b,ins,outs,E,B,p,C⟩:=h;refine⟨_,_,_,C,Cg hg R λs' o' q m ρ Im a w D=>?_⟩;have G:dn s' x.toList=some V:=(d6 λk C=>q k (by simp[C])).trans hv;have z:s' t=some (.yld d):=(q t ν).trans hf;obtain⟨S,Q⟩:=(D.opds G).1;have e:(x.toList.map a.eval).toArray=x.map a.eval:=by apply Array.ext';simp
 rw[e]at S Q;obtain⟨y,hy,s⟩:=D.slots t _ z;obtain⟨l,rfl,L⟩:∃l,y=.func (.yield l) #[] #[]/\(ρ d).1=some l:=by
  cases s with
  |imm _ _ H=>cases H
  |yld _ l h=>exact⟨l,rfl,h⟩
 obtain⟨j,g⟩:=D.callK E.icl E.live (fV (λi H=>m i (by simp at H⊢;exact .inl H)) B) (gM (λi H=>m i (by simp at H⊢;exact .inr H)) p);obtain⟨f,tmps,assign,body,K,c⟩:=E.yld w ρ Im (x.map a.eval) l j ⟨S,Q⟩ L;have u:a.eval (.tmp t)=.func (.yield l) #[] #[]:=by simp[Act.eval,hy]
 have v:(execOp a.eval o).run P w=.ok (.round l f tmps assign body) w:=by
  simp[execOp,ho,resolve,u,Deferred.ofValue,invoke,K]
 refine⟨λ_ _=>trivial,?_⟩;rw[Oper.semAt_eq _ _ _ (oG R),v];refine⟨λe=>(by cases e),RoundIn.mono (F:=rf X.w0.ro) (n:=0) c λe w'=>?_⟩;rintro⟨N,I,rfl,hm⟩;obtain⟨O,_,_,h3⟩:=g w' N I hm;exact⟨.bool b,O,I,rfl,h3,.imm _ _ (.bool b),λi H=>by cases H⟩
end
def pD(b:Bool)(x y:Prop):Prop:=match b with
 |true=>x
 |false=>y
theorem aA{b:Bool}{x y:Prop}(h:b=true->x)(k:b=false->y):pD b x y:=by
 cases b with
 |true=>exact h rfl
 |false=>exact k rfl
theorem aa{p:Prop}[Decidable p]{x y:Prop}(h:p->x)(k:¬p->y):pD (decide p) x y:=aA (λe=>h (of_decide_eq_true e)) (λe=>k (of_decide_eq_false e))
theorem aq{p:Prop}[Decidable p]{x y:Prop}(h:¬p->x)(k:p->y):pD (!decide p) x y:=aA (λe=>h (by simpa using e)) (λe=>k (by simpa using e))
theorem U{p:Prop}[Decidable p]{x y:Prop}(n:p)(g:p->x):pD (decide p) x y:=aa g λh=>absurd n h
theorem M{p:Prop}[Decidable p]{x y:Prop}(n:¬p)(g:¬p->y):pD (decide p) x y:=aa (λh=>absurd h n) g
theorem ϑ{p:Prop}[Decidable p]{x y:Prop}(n:¬p)(g:¬p->x):pD (!decide p) x y:=aq g λh=>absurd h n
theorem ϕ{p:Prop}[Decidable p]{x y:Prop}(n:p)(g:p->y):pD (!decide p) x y:=aq (λh=>absurd n h) g
theorem Ω{p:Prop}[Decidable p]{x y q:Prop}(n:¬p)(g:q)(e:q->y:=by intro q;(conv=>whnf);exact q):pD (decide p) x y:=aa (λh=>absurd h n) λ_=>e g
theorem Δ{p:Prop}[Decidable p]{x y q:Prop}(n:p)(g:q)(e:q->x:=by intro q;(conv=>whnf);exact q):pD (decide p) x y:=aa (λ_=>e g) λh=>absurd n h
theorem Φ{p:Prop}[Decidable p]{x y q:Prop}(n:p)(g:q)(e:q->y:=by intro q;(conv=>whnf);exact q):pD (!decide p) x y:=aq (λh=>absurd n h) λ_=>e g
theorem Y{p:Prop}[Decidable p]{x y q:Prop}(n:¬p)(g:q)(e:q->x:=by intro q;(conv=>whnf);exact q):pD (!decide p) x y:=aq (λ_=>e g) λh=>absurd h n
theorem Cq{b:Bool}{x y:Prop}(hb:b=true)(h:pD b x y):x:=by subst hb;exact h
theorem AJ{b:Bool}{x y:Prop}(hb:b=false)(h:pD b x y):y:=by subst hb;exact h
def OT(O:Array Oper)(i:Nat):Bool:=O.toList.any λo=>match o.guard with
 |some (j,_)=>Nat.beq j i
 |none=>false
def Pj(nt:Nat)(o:Oper):Bool:=match Ic o with
 |true=>match o.dst with
  |some d=>Nat.blt d nt
  |none=>true
 |false=>false
theorem F3{nt:Nat}{o:Oper}(h:Pj nt o=true):co nt o:=by
 unfold Pj at h;split at h
 .rename_i H;refine⟨H,?_⟩;cases hd:o.dst with
  |none=>trivial
  |some d=>rw[hd]at h;exact h
 .cases h
structure VInv(P:Program)(t:TypeId)(name:String)(vs:List AV)(o:Xd)(k:List Nat->AV->Xb->Prop):Prop where
 ex:∃f,(∀w,(method (P.types.size+Made.depth) t (.agg #[]) name).run P w=.ok (f,.agg #[]) w)/\vCall P f (.agg []::vs) o k
def M9:AV->Bool
 |.int _ _|.bool _|.str _=>true
 |.agg []=>true
 |_=>false
theorem F4{v:AV}(h:M9 v=true)(ρ:Loc)(Im:Nat->Prop)(H:eZ)(y:Value)(a:Con ρ Im H v y):ConI Im H v y:=by
 unfold M9 at h;split at h
 .cases a with |imm _ _ hi=>exact hi
 .cases a with |imm _ _ hi=>exact hi
 .cases a with |imm _ _ hi=>exact hi
 .cases a with
  |imm _ _ hi=>exact hi
  |agg _ ys hl _=>exact .agg [] ys hl (by intro i c x a;simp at a)
 .cases h
def yS:TK->Bool
 |.other=>false
 |_=>true
section
variable (P:Program) (T:kb) (X:Frm) (ops:Array Oper)
def Kd(i:Nat)(o:Oper)(A:St)(k:Eff->Prop):Prop:=match o.op with
 |.move x=>match cm A.s x with
  |some v=>match OT ops i with
   |false=>k (dj ops o (di x) [] v)
   |true=>match v with
    |.bool b=>pD b (k (dj ops o (di x) [] (.bool true))) (k (dj ops o (di x) [] (.bool false)))
    |_=>False
  |none=>False
 |.assign x=>match cm A.s x with
  |some v=>k (dj ops o (di x) [] v)
  |none=>False
 |.pick c x y=>match cm A.s c with
  |some (.bool b)=>pD b
   (match cm A.s x with
    |some v=>k (dj ops o (di c++di x++di y) [] v)
    |none=>False)
   (match cm A.s y with
    |some v=>k (dj ops o (di c++di x++di y) [] v)
    |none=>False)
  |_=>False
 |.binOp bo t x y _=>match cm A.s x,cm A.s y,gq T t with
  |some u,some v,some ti=>AH P t ti.tk bo u v λr=>k (dj ops o (di x++di y) [] r)
  |_,_,_=>False
 |.unOp uo _ x=>match cm A.s x with
  |some v=>NF uo v λr=>k (dj ops o (di x) [] r)
  |none=>False
 |.convert t t' x=>match cm A.s x,gq T t,gq T t' with
  |some v,some ti,some ti'=>AC ti ti' v λr=>k (dj ops o (di x) [] r)
  |_,_,_=>False
 |.load t p=>match gq T t with
  |some ti=>AA ti A p λR v=>k (dj ops o (di p) R v)
  |none=>False
 |.store t x y=>match gq T t,cm A.s x,cm A.s y with
  |some ti,some p,some v=>rB ti A.o p v λid ob=>k (dj ops o (di x++di y) [id] .junk [(id,some ob)])
  |_,_,_=>False
 |.fieldAddr t p f=>match gq T t,cm A.s p with
  |some ti,some v=>r7 ti f v λr=>k (dj ops o (di p) [] r)
  |_,_=>False
 |.nilCheck p=>match cm A.s p with
  |some v=>mA v λr=>k (dj ops o (di p) [] r)
  |none=>False
 |.indexAddr t x ix=>match gq T t,cm A.s x,cm A.s ix with
  |some ti,some v,some vi=>r8 T ti v vi λr=>k (dj ops o (di x++di ix) [] r)
  |_,_,_=>False
 |.slice t x lo hi none=>match gq T t,cm A.s x,lf A.s lo,lf A.s hi with
  |some ti,some v,some vl,some vh=>mG T ti A.o v vl vh λR r=>k (dj ops o (di x++y3 lo++y3 hi) R r)
  |_,_,_,_=>False
 |.slice t x none (some hi) (some mx)=>match gq T t,cm A.s x,cm A.s hi,cm A.s mx with
  |some ti,some v,some vh,some vm=>match ti.tk with
   |.slice e=>ck (gq T e).isSome (mB (OO hi) ti v vh vm λr=>k (dj ops o (di x++di hi++di mx) [] r))
   |_=>False
  |_,_,_,_=>False
 |.extract x j=>match cm A.s x with
  |some v=>jD j v λr=>k (dj ops o (di x) [] r)
  |none=>False
 |.makeFunc (.func f) fs caps=>match fs.toList,dn A.s caps.toList with
  |[],some vs=>k (dj ops o (ja caps.toList) [] (.fn f vs))
  |_,_=>False
 |.alloc t=>match gq T t,o.dst with
  |some ti,some d=>ck (A.o d).isNone (k (dj ops o [] [d] (.lptr d 0) [(d,some (.box ti.zero))]))
  |_,_=>False
 |.box _ x=>match cm A.s x,o.dst with
  |some v,some d=>ck (A.o d).isNone (Kv v λcs=>k (dj ops o (di x) [d] (.lptr d 0) [(d,some (.box cs))]))
  |_,_=>False
 |.build t parts=>match gq T t,fH A.s parts.toList with
  |some ti,some ps=>rC T ti ps λr=>k (dj ops o (nD parts.toList) [] r)
  |_,_=>False
 |.buildSlice t len parts=>match gq T t,fH A.s parts.toList,o.dst with
  |some ti,some ps,some d=>ck (A.o d).isNone (Ks T ti len ps λob=>k (dj ops o (nD parts.toList) [d] (.osl d len) [(d,some ob)]))
  |_,_,_=>False
 |.makeSlice t x y=>match gq T t,cm A.s x,cm A.s y,o.dst with
  |some ti,some v,some u,some d=>ck (A.o d).isNone (AF T ti v u λn ob=>k (dj ops o (di x++di y) [d] (.osl d n) [(d,some ob)]))
  |_,_,_,_=>False
 |.call c=>match c.callee with
  |.builtin .len=>match c.args.toList,c.argTypes.toList with
   |[x],[t]=>match gq T t,cm A.s x with
    |some ti,some v=>Kt ti v λr=>k (dj ops o (di x) [] r)
    |_,_=>False
   |_,_=>False
  |.builtin .max=>match dn A.s c.args.toList with
   |some vs=>Ke true vs λr=>k (dj ops o (ja c.args.toList) [] r)
   |none=>False
  |.builtin .min=>match dn A.s c.args.toList with
   |some vs=>Ke false vs λr=>k (dj ops o (ja c.args.toList) [] r)
   |none=>False
  |.builtin .append=>match c.args.toList,c.argTypes.toList,o.dst with
   |[x,y],[t,t'],some d=>match gq T t,cm A.s x,cm A.s y with
    |some ti,some v,some u=>ck (Nat.beq t t'&&(A.o d).isNone) (mC T ti X.pid A.o d v u λR n w=>k (dj ops o (di x++di y) R (.osl d n) w))
    |_,_,_=>False
   |_,_,_=>False
  |.builtin .clear=>match c.args.toList,c.argTypes.toList with
   |[x],[t]=>match gq T t,cm A.s x with
    |some ti,some v=>rG T ti A.o v λid ob=>k (dj ops o (di x) [id] .junk [(id,some ob)])
    |_,_=>False
   |_,_=>False
  |.value (.func f)=>match dn A.s c.args.toList with
   |some vs=>vCall P f vs A.o λR r w=>k (dj ops o (ja c.args.toList) R r w)
   |none=>False
  |.value (.tmp t)=>match A.s t,dn A.s c.args.toList with
   |some (.fn f caps),some vs=>vCall P f (vs++caps) A.o λR r w=>k (dj ops o (t::ja c.args.toList) R r w)
   |some (.yld id),some vs=>vYield P id vs A.o λR r w=>k (dj ops o (t::ja c.args.toList) R r w)
   |_,_=>False
  |.invoke x name=>match cm A.s x,dn A.s c.args.toList with
   |some (.iface t (.agg [])),some vs=>VInv P t name vs A.o λR r w=>k (dj ops o (di x++ja c.args.toList) R r w)
   |_,_=>False
  |_=>False
 |.makeMap _ none=>match o.dst with
  |some d=>ck (A.o d).isNone (k (dj ops o [] [d] (.mref d) [(d,some (.map []))]))
  |none=>False
 |.lookup t x y ok=>match gq T t,cm A.s x,cm A.s y with
  |some ti,some m,some key=>mF T ti A.o m key ok λR v=>k (dj ops o (di x++di y) R v)
  |_,_,_=>False
 |.mapUpdate t x y z=>match gq T t,cm A.s x,cm A.s y,cm A.s z with
  |some ti,some m,some key,some v=>k9 T ti A.o m key v λid ob=>k (dj ops o (di x++di y++di z) [id] .junk [(id,some ob)])
  |_,_,_,_=>False
 |.insert t x y z=>match gq T t,cm A.s x,cm A.s y,cm A.s z with
  |some ti,some m,some key,some v=>k9 T ti A.o m key v λid ob=>k (dj ops o (di x++di y++di z) [id] .junk [(id,some ob)])
  |_,_,_,_=>False
 |.index t x y=>match gq T t,cm A.s x,cm A.s y with
  |some ti,some u,some v=>match ti.tk with
   |.str=>rE u v λr=>k (dj ops o (di x++di y) [] r)
   |.arr n e=>rF T e n u v λr=>k (dj ops o (di x++di y) [] r)
   |_=>False
  |_,_,_=>False
 |.makeInterface t x=>match gq T t,cm A.s x with
  |some ti,some v=>ck (M9 v&&yS ti.tk) (k (dj ops o (di x) [] (.iface t v)))
  |_,_=>False
 |.field t x f=>match gq T t,cm A.s x with
  |some ti,some v=>Ku P t ti f v λr=>k (dj ops o (di x) [] r)
  |_,_=>False
 |_=>False
def JY(i : Nat)(o:Oper)(A:St)(k:Eff->Prop):Prop:=match Pj X.nt o with
 |true => match o.guard with
  |none=>Kd P T X ops i o A k
  |some (j,want)=>match ops[j]? with
   |some p=>match p.dst with
    |some t=>match A.s t with
     |some (.bool b)=>match b==want with
      |true=>Kd P T X ops i o A k
      |false=>k (dj ops o [] [] (.tup []))
     |some (.tup [])=>k (dj ops o [] [] (.tup []))
     |_=>False
    |none=>False
   |none=>False
 |false=>False
def J8(wo objs:Xb)(k:Xb->Prop):Prop:=match wo with
 |[]=>k objs
 |[x]=>k (x::objs)
 |[x,y]=>k (x::y::objs)
 |wo=>k (wo++objs)
def Kc(e:List (Nat×AV))(objs:Xb)(E:Eff)(k:St->Prop):Prop:=match E with
 |⟨_,_,ws,wo⟩=>match ws with
  |some (d,v)=>J8 wo objs λobjs=>k ⟨(d,v)::e,objs⟩
  |none=>J8 wo objs λobjs=>k ⟨e,objs⟩
structure DrawOk(c k:Prop):Prop where
 left:c
 right:k
def t0:List Oper->Nat->St->(St->Prop)->Prop
 |[],_,A,K=>K A
 |o::r,i,⟨env,objs⟩,K=>JY P T X ops i o ⟨env,objs⟩ λE=>Kc env objs E λB=>t0 r (i+1) B K
def kA:List Oper->Nat->St->List (Nat×Eff)->(St->Prop)->Prop
 |[],_,A,acc,K=>DrawOk (KR ops=true/\fA ops acc.reverse=true) (K A)
 |o::r,i,⟨env,objs⟩,acc,K=>JY P T X ops i o ⟨env,objs⟩ λE=>Kc env objs E λB=>kA r (i+1) B ((i,E)::acc) K
end
section
variable {P:Program} {T:kb} {X:Frm} {ops:Array Oper}
theorem jG{α:Type}{a:Array α}{x:α}(h:a.toList=[x]):a= #[x]:=by apply Array.ext';simpa using h
theorem rH{α:Type}{a:Array α}{x y:α}(h:a.toList=[x,y]):a= #[x,y]:=by apply Array.ext';simpa using h
theorem AK{α:Type}{x:Array α}(h:x.toList=[]):x= #[]:=by apply Array.ext';simpa using h
theorem vq{O:Oper}{t:Nat}{g:Array Operand}{ts:Array TypeId}(ho:O.op=.call { callee:=.value (.tmp t),args:=g,argTypes:=ts }){A:St}(hg:lk ops O A.s)(hd:co X.nt O){f:FuncId}{C V:List AV}(hf:A.s t=some (.fn f C))(hv:dn A.s g.toList=some V)
  {k:List Nat->AV->Xb->Prop} (h:vCall P f (V++C) A.o k):∃W r wo,k W r wo/\bD P X ops O A.s A.o (dj ops O (t::ja g.toList) W r wo):=by
 obtain⟨r,ins,outs,S,G,u,K⟩:=h;refine⟨_,_,_,K,cT hg hd λs' o' v s ρ Im a w L=>?_⟩;have N:dn s' g.toList=some V:=(d6 λk K=>v k (by simp[K])).trans hv;have F:s' t=some (.fn f C):=(v t ν).trans hf;obtain⟨p,R⟩:=(L.opds N).1;have e:(g.toList.map a.eval).toArray=g.map a.eval:=by apply Array.ext';simp
 rw[e]at p R;obtain⟨y,hy,B⟩:=L.slots t _ F;have hcl:∃b,y=.func (.func f) #[] b/\b.size=C.length/\∀(i:Nat) (c:AV) (x:Value),C[i]? =some c->b[i]? =some x->Con ρ Im w.heap c x:=by
  cases B with
  |imm _ _ o=>
   cases o with
   |fn _ _ b j l=>exact⟨b,rfl,j,λi c x z h4=>.imm _ _ (l i c x z h4)⟩
  |fn _ _ b j l=>exact⟨b,rfl,j,l⟩
 obtain⟨b,rfl,j,l⟩:=hcl;have n:Cons ρ Im w.heap (V++C) (g.map a.eval++b):=by
  refine⟨by simp[j]at p⊢;omega,λi c x H d=>?_⟩;by_cases q:i<V.length
  .rw[List.getElem?_append_left q]at H;rw[Array.getElem?_append_left (by rw[p];exact q)]at d;exact R i c x H d
  .rw[List.getElem?_append_right Z]at H;rw[Array.getElem?_append_right (by rw[p];omega),p]at d;exact l _ c x H d
 have m:=L.call S (fV (λi o=>s i (by simp at o⊢;exact .inl o)) G) (gM (λi o=>s i (by simp at o⊢;exact .inr o)) u) n;have D:a.eval (.tmp t)=.func (.func f) #[] b:=by simp[Act.eval,hy]
 have E:(execOp a.eval O).run P w=.ok (.enter f (g.map a.eval++b)) w:=by
  simp[execOp,ho,resolve,D,Deferred.ofValue,invoke,S.enter]
 unfold Oper.wp;rw[E];refine m.mono λe w'=>?_;rintro⟨y,Q,I,rfl,j,l,z⟩;exact⟨y,Q,I,rfl,j,l,z⟩
theorem AM{o:Oper}{x:Operand}{n:String}{b:Array Operand}{ts:Array TypeId}(ho:o.op=.call { callee:=.invoke x n,args:=b,argTypes:=ts }){A:St}(hg:lk ops o A.s)(hd:co X.nt o){t:TypeId}{V:List AV}(hf:cm A.s x=some (.iface t (.agg [])))(hv:dn A.s b.toList=some V)
  {k:List Nat->AV->Xb->Prop} (h:VInv P t n V A.o k):∃R r W,k R r W/\bD P X ops o A.s A.o (dj ops o (di x++ja b.toList) R r W):=by
 obtain⟨f,hm,r,ins,outs,N,F,u,q⟩:=h;refine⟨_,_,_,q,cT hg hd λs' o' v s ρ Im a w G=>?_⟩;have K:dn s' b.toList=some V:=(d6 λk q=>v k (by simp[q])).trans hv;have E:cm s' x=some (.iface t (.agg [])):=(ay λk q=>v k (by simp[q])).trans hf;obtain⟨C,B⟩:=(G.opds K).1;have e:(b.toList.map a.eval).toArray=b.map a.eval:=by apply Array.ext';simp
 rw[e]at C B;have hx:a.eval x=.iface t (.agg #[]):=by
  have m:=G.opd E;generalize a.eval x=y at m;cases m with
  |imm _ _ l=>
   cases l with
   |iface _ _ z hz=>
    cases hz with
    |agg _ ys C _=>rw[Array.eq_empty_of_size_eq_zero C]
 have j:Cons ρ Im w.heap (.agg []::V) (#[.agg #[]]++b.map a.eval):=by
  refine⟨by simp at C⊢;omega,λi c x g H=>?_⟩;cases i with
  |zero=>
   have O:(#[Value.agg #[]]++b.map a.eval)[0]? =some (.agg #[]):=by rw[Array.getElem?_append_left ν];rfl
   rw[O]at H;simp at g H;subst g;subst H;exact .imm _ _ (.agg [] #[] rfl (by intro i c x B;simp at B))
  |succ i=>
   refine B i c x (by simpa using g) ?_;rw[Array.getElem?_append_right ν]at H;simpa using H
 have d:=G.call N (fV (λi l=>s i (by simp at l⊢;exact .inl l)) F) (gM (λi l=>s i (by simp at l⊢;exact .inr l)) u) j;have p:(#[Value.iface t (.agg #[])]++b.map a.eval).extract 1 (#[Value.iface t (.agg #[])]++b.map a.eval).size=b.map a.eval:=by
  apply Array.ext';simp only[Array.toList_extract,Array.toList_append,List.extract_eq_take_drop,Array.size_append,List.size_toArray,List.length_cons,List.length_nil,Array.size_map,List.cons_append,List.nil_append,List.drop_succ_cons,List.drop_zero];rw[List.take_of_length_le ν]
 have D:(execOp a.eval o).run P w=.ok (.enter f (#[.agg #[]]++b.map a.eval)) w:=by
  have Q:(#[Value.iface t (.agg #[])]++b.map a.eval)[0]? =some (.iface t (.agg #[])):=by rw[Array.getElem?_append_left ν];rfl
  simp only[execOp,ho,resolve,hx,Sem.run_bind,Sem.run_pure,Result.andThen_ok,invoke,Q,p,callMethod,run_program,hm,N.enter]
 unfold Oper.wp;rw[D];refine d.mono λe w'=>?_;rintro⟨y,L,I,rfl,S,h2,h3⟩;exact⟨y,L,I,rfl,S,h2,h3⟩
theorem rI(D:fK P T){i:Nat}{o:Oper}{A:St}{k:Eff->Prop}(C:lk ops o A.s)(B:co X.nt o)(h:Kd P T X ops i o A k):∃E,bD P X ops o A.s A.o E/\k E:=by
 unfold Kd at h;split at h
 .rename_i x g;split at h
  .rename_i v q;split at h
   .exact⟨_,jC (.inl g) C B q,h⟩
   .split at h
    .rename_i b;cases b with
     |true=>exact⟨_,jC (.inl g) C B q,h⟩
     |false=>exact⟨_,jC (.inl g) C B q,h⟩
    .exact h.elim
  .exact h.elim
 .rename_i x g;split at h
  .rename_i v q;exact⟨_,jC (.inr g) C B q,h⟩
  .exact h.elim
 .rename_i c x y g;split at h
  .rename_i b hc;cases b with
   |true=>
    simp only[pD]at h;split at h
    .rename_i v q;exact⟨_,r6 g C B hc (by simpa using q),h⟩
    .exact h.elim
   |false=>
    simp only[pD]at h;split at h
    .rename_i v q;exact⟨_,r6 g C B hc (by simpa using q),h⟩
    .exact h.elim
  .exact h.elim
 .rename_i bo t x y yt g;split at h
  .rename_i u v F N q H;obtain⟨r,l,hn,hrun⟩:=xl (D t F H) h;refine⟨_,bh C B λs' s o' ρ Im a w hr=>?_,l⟩;have hu':cm s' x=some u:=(ay λk l=>s k (by simp[l])).trans N;have hv':cm s' y=some v:=(ay λk l=>s k (by simp[l])).trans q;obtain⟨z,hz,hc⟩:=hrun ρ Im w _ _ x y (hr.opd hu') (hr.opd hv');refine⟨⟨z,?_,.imm _ _ (hc _ _)⟩,λj hj=>absurd hj (hn j)⟩;simp only[execOp,g];rw[Sem.run_bind,hz];rfl
  .exact h.elim
 .rename_i uo t x g;split at h
  .rename_i v q;obtain⟨r,l,s⟩:=Ci g C B q h;exact⟨_,s,l⟩
  .exact h.elim
 .rename_i t t' x g;split at h
  .rename_i v F ti' q H hti';obtain⟨r,l,s⟩:=xf g C B (D _ _ H) (D _ _ hti') q h;exact⟨_,s,l⟩
  .exact h.elim
 .rename_i t p g;split at h
  .rename_i F H;obtain⟨V,v,l,s⟩:=xc g C B (D _ _ H) h;exact⟨_,s,l⟩
  .exact h.elim
 .rename_i t x y g;split at h
  .rename_i F p v H hp q;obtain⟨id,ob,l,s⟩:=uX g C B (D _ _ H) hp q h;exact⟨_,s,l⟩
  .exact h.elim
 .rename_i t p f g;split at h
  .rename_i F v H q;obtain⟨r,l,s⟩:=uS g C B (D _ _ H) q h;exact⟨_,s,l⟩
  .exact h.elim
 .rename_i p g;split at h
  .rename_i v q;obtain⟨r,l,s⟩:=tm g C B q h;exact⟨_,s,l⟩
  .exact h.elim
 .rename_i t x ix g;split at h
  .rename_i F v vi H q hvi;obtain⟨r,l,s⟩:=uT D g C B (D _ _ H) q hvi h;exact⟨_,s,l⟩
  .exact h.elim
 .rename_i t x lo hi g;split at h
  .rename_i F v vl vh H q hl hh;obtain⟨V,r,l,s⟩:=tx D g C B (D _ _ H) q hl hh h;exact⟨_,s,l⟩
  .exact h.elim
 .rename_i t x hi mx g;split at h
  .rename_i F v vh vm H q hh O;split at h
   .rename_i e l;obtain⟨I,K⟩:=be h;obtain⟨r,l,s⟩:=tn D g C B (D _ _ H) (λe' he'=>by rw[l]at he';cases he';exact Option.isSome_iff_exists.1 I) q hh O K;exact⟨_,s,l⟩
   .exact h.elim
  .exact h.elim
 .rename_i x j g;split at h
  .rename_i v q;obtain⟨r,l,s⟩:=qU g C B q h;exact⟨_,s,l⟩
  .exact h.elim
 .rename_i f fs caps g;split at h
  .rename_i W hfs q;rw[AK hfs]at g;exact⟨_,xg g C B q,h⟩
  .exact h.elim
 .rename_i t g;split at h
  .rename_i F d H G;obtain⟨I,K⟩:=be h;exact⟨_,uW g C B (Option.isNone_iff_eq_none.1 I) (D _ _ H),K⟩
  .exact h.elim
 .rename_i t x g;split at h
  .rename_i v d q G;obtain⟨I,K⟩:=be h;obtain⟨cs,l,s⟩:=AD g C B (Option.isNone_iff_eq_none.1 I) q K;exact⟨_,s,l⟩
  .exact h.elim
 .rename_i t S g;split at h
  .rename_i F ps H Q;obtain⟨r,l,s⟩:=uY D g C B (D _ _ H) Q h;exact⟨_,s,l⟩
  .exact h.elim
 .rename_i t len S g;split at h
  .rename_i F ps d H Q G;obtain⟨I,K⟩:=be h;obtain⟨ob,l,s⟩:=AG D g C B (Option.isNone_iff_eq_none.1 I) (D _ _ H) Q K;exact⟨_,s,l⟩
  .exact h.elim
 .rename_i t x y g;split at h
  .rename_i F v u d H q N G;obtain⟨I,K⟩:=be h;obtain⟨n,ob,l,s⟩:=xj D g C B (Option.isNone_iff_eq_none.1 I) (D _ _ H) q N K;exact⟨_,s,l⟩
  .exact h.elim
 .rename_i c g;obtain⟨callee,args,argTypes⟩:=c;simp only at h;split at h
  .split at h
   .rename_i x t hx ht;split at h
    .rename_i F v H q;rw[jG hx,jG ht]at g;obtain⟨r,l,s⟩:=AB g C B (D _ _ H) q h;exact⟨_,s,l⟩
    .exact h.elim
   .exact h.elim
  .split at h
   .rename_i W q;obtain⟨r,l,s⟩:=r9 (mx:=true) g C B q h;exact⟨_,s,l⟩
   .exact h.elim
  .split at h
   .rename_i W q;obtain⟨r,l,s⟩:=r9 (mx:=false) g C B q h;exact⟨_,s,l⟩
   .exact h.elim
  .split at h
   .rename_i x y t t' d hx ht G;split at h
    .rename_i F v u H q N;replace h:=be h;obtain⟨hb,h⟩:=h;simp only[Bool.and_eq_true]at hb;have htt:=Nat.eq_of_beq_eq_true hb.1;subst htt;have hid:=Option.isNone_iff_eq_none.1 hb.2;rw[rH hx,rH ht]at g;obtain⟨V,n,wo,l,s⟩:=tr D g C B hid (D _ _ H) q N h;exact⟨_,s,l⟩
    .exact h.elim
   .exact h.elim
  .split at h
   .rename_i x t hx ht;split at h
    .rename_i F v H q;rw[jG hx,jG ht]at g;obtain⟨id,ob,l,s⟩:=vo D g C B (D _ _ H) q h;exact⟨_,s,l⟩
    .exact h.elim
   .exact h.elim
  .split at h
   .rename_i W q;obtain⟨V,r,wo,l,s⟩:=xn g C B q h;exact⟨_,s,l⟩
   .exact h.elim
  .split at h
   .rename_i f caps W hf q;obtain⟨V,r,wo,l,s⟩:=vq g C B hf q h;exact⟨_,s,l⟩
   .rename_i yid W hf q;obtain⟨V,r,wo,l,s⟩:=vp g C B hf q h;exact⟨_,s,l⟩
   .exact h.elim
  .split at h
   .rename_i t W hf q;obtain⟨V,r,wo,l,s⟩:=AM g C B hf q h;exact⟨_,s,l⟩
   .exact h.elim
  .exact h.elim
 .rename_i t g;split at h
  .rename_i d G;obtain⟨I,K⟩:=be h;exact⟨_,rg g C B (Option.isNone_iff_eq_none.1 I),K⟩
  .exact h.elim
 .rename_i t x y ok g;split at h
  .rename_i F m key H O l;obtain⟨V,v,L,s⟩:=tv D g C B (D _ _ H) O l h;exact⟨_,s,L⟩
  .exact h.elim
 .rename_i t x y z g;split at h
  .rename_i F m key v H O l q;obtain⟨id,ob,L,s⟩:=kX D (.inl g) C B (D _ _ H) O l q h;exact⟨_,s,L⟩
  .exact h.elim
 .rename_i t x y z g;split at h
  .rename_i F m key v H O l q;obtain⟨id,ob,L,s⟩:=kX D (.inr g) C B (D _ _ H) O l q h;exact⟨_,s,L⟩
  .exact h.elim
 .rename_i t x y g;split at h
  .rename_i F u v H N q;split at h
   .rename_i R;obtain⟨r,l,s⟩:=vj g C B (D _ _ H) R N q h;exact⟨_,s,l⟩
   .rename_i n e R;obtain⟨r,l,s⟩:=vk g C B D (D _ _ H) R N q h;exact⟨_,s,l⟩
   .exact h.elim
  .exact h.elim
 .rename_i t x g;split at h
  .rename_i F v H q;obtain⟨I,K⟩:=be h;simp only[Bool.and_eq_true]at I;refine⟨_,vn g C B (D _ _ H) ?_ q (F4 I.1),K⟩;have h3:=I.2;unfold yS at h3;split at h3
   .cases h3
   .rename_i hne;split
    .rename_i he;exact hne he
    .trivial
  .exact h.elim
 .rename_i t x f g;split at h
  .rename_i F v H q;obtain⟨r,l,s⟩:=AI g C B (D _ _ H) q h;exact⟨_,s,l⟩
  .exact h.elim
 .exact h.elim
theorem rJ(f:fK P T){i:Nat}{o:Oper}{A:St}{k:Eff->Prop}(h:JY P T X ops i o A k):∃E,bD P X ops o A.s A.o E/\k E:=by
 unfold JY at h;split at h
 .rename_i H;have H:=F3 H;split at h
  .rename_i a;exact rI f (by unfold lk;rw[a];trivial) H h
  .rename_i j w a;split at h
   .rename_i p d;split at h
    .rename_i t e;split at h
     .rename_i b hb;split at h
      .rename_i c;have:b=w:=by simpa using c
       subst this;exact rI f (by unfold lk;simp only[a,d,e];exact hb) H h
      .rename_i c;exact⟨_,rz a d e (.inl ⟨hb,by simpa using c⟩) H,h⟩
     .rename_i hb;exact⟨_,rz (b:=true) a d e (.inr hb) H,h⟩
     .exact h.elim
    .exact h.elim
   .exact h.elim
 .exact h.elim
theorem vr{e:List (Nat×AV)}{objs:Xb}{E:Eff}{k:St->Prop}(h:Kc e objs E k):∃B:St,k B/\B=(St.mk e objs).app E:=by
 have c:∀(w:Xb) (k:Xb->Prop),J8 w objs k->k (w++objs):=by
  intro w k h;unfold J8 at h;split at h<;>simpa using h
 obtain⟨R,r,W,w⟩:=E;unfold Kc at h;cases W with
 |none=>exact⟨_,c _ _ h,rfl⟩
 |some p=>obtain⟨d,v⟩:=p;exact⟨_,c _ _ h,rfl⟩
theorem rK(d:fK P T):∀(l:List Oper) (i:Nat) (A:St) (K:St->Prop),t0 P T X ops l i A K->∃L:List (Oper×Eff),L.map (·.1)=l/\uO P X ops L A.s A.o/\∃B,K B/\B.s=y4 L A.s/\B.o=D2 L A.o
 |[],_,A,K,h=>⟨[],rfl,trivial,A,h,rfl,rfl⟩
 |o::r,i,⟨env,objs⟩,K,h=>by
  simp only[t0]at h;obtain⟨E,g,H⟩:=rJ d h;obtain⟨j,H,rfl⟩:=vr H;obtain⟨L,e,a,B,f,b,c⟩:=rK d r (i+1) _ K H;rw[St.app_s,St.app_o]at a;rw[St.app_s]at b;rw[St.app_o]at c;exact⟨(o,E)::L,by simp[e],⟨g,a⟩,B,f,b,c⟩
theorem oN(f:fK P T):∀(l:List Oper) (i:Nat) (A:St) (a:List (Nat×Eff)) (K:St->Prop),kA P T X ops l i A a K->
  ∃L:List (Nat×Oper×Eff),L.map (·.2.1)=l/\L.map (·.1)=List.range' i l.length/\uO P X ops (L.map (·.2)) A.s A.o/\KR ops=true/\fA ops (a.reverse++L.map λp=>(p.1,p.2.2))=true/\
   ∃B,K B/\B.s=y4 (L.map (·.2)) A.s/\B.o=D2 (L.map (·.2)) A.o
 |[],i,A,a,K,h=>⟨[],rfl,rfl,trivial,h.1.1,by simpa using h.1.2,A,h.2,rfl,rfl⟩
 |o::r,i,⟨env,objs⟩,a,K,h=>by
  simp only[kA]at h;obtain⟨E,m,b⟩:=rJ f h;obtain⟨n,b,rfl⟩:=vr b;obtain⟨L,g,H,c,hb,k,B,j,d,e⟩:=oN f r (i+1) _ _ K b;rw[St.app_s,St.app_o]at c;rw[St.app_s]at d;rw[St.app_o]at e;exact⟨(i,o,E)::L,by simp[g],by simp[H,List.range'_succ],⟨m,c⟩,hb,by simpa using k,B,j,d,e⟩
structure GoodS(P:Program)(X:Frm)(c:Code)(A:St)(K:Exit->St->Prop):Prop where
 run:∀a w,Rel X A.s A.o a w->c.wpIn (rf X.w0.ro) 0 P (λe a' w'=>∃B:St,K e B/\Rel X B.s B.o a' w') a w
theorem GoodS.mono{c:Code}{A:St}{K K':Exit->St->Prop}(h:GoodS P X c A K)(d:∀e B,K e B->K' e B):GoodS P X c A K' :=
 ⟨λa w f=>Go.wpIn_mono (h.run a w f) λ_ _ _ ⟨B,H,b⟩=>⟨B,d _ _ H,b⟩⟩
theorem Rel.drew{s:Nat->Option AV}{o:Xd}{a:Act}{w:World}(h:Rel X s o a w):Rel X s o a { w with drawn:=w.drawn+1 }:=by
 obtain⟨ρ,Im,h⟩:=h;exact⟨ρ,Im,{ objs:=h.objs,own:=h.own,inj:=h.inj,ocl:=h.ocl,imlt:=h.imlt,im0:=h.im0,imf:=h.imf,os:=h.os,tape:=h.tape,output:=h.output,size:=h.size,frame:=h.frame,pin:=h.pin,lrc:=h.lrc,rnd:=h.rnd,slots:=h.slots,scl:=h.scl,defers:=h.defers,nt:=h.nt }⟩
def yT(id:Nat)(K:Exit->St->Prop):Exit->St->Prop
 |.exit i,B=>match Nat.beq i id with
  |true=>K .normal B
  |false=>K (.exit i) B
 |e,B=>K e B
def Pp(P:Program)(X:Frm)(b:Code)(K:Exit->St->Prop):Exit->St->Prop
 |.normal,B=>GoodS P X b B K
 |e,B=>K e B
structure LoopG(P:Program)(X:Frm)(c:Code)(A:St)(K:Exit->St->Prop):Prop where
 good:GoodS P X c A K
def vc(P:Program)(T:kb)(X:Frm):Code->St->(Exit->St->Prop)->Prop
 |.skip,A,K=>K .normal A
 |.region _ ops false,A,K=>t0 P T X ops ops.toList 0 A (K .normal)
 |.region _ ops true,A,K=>kA P T X ops ops.toList 0 A [] (K .normal)
 |.seq a b,A,K=>vc P T X a A (Pp P X b K)
 |.cond c x y,A,K=>match cm A.s c with
  |some (.bool b)=>pD b (GoodS P X x A K) (GoodS P X y A K)
  |_=>False
 |.block id c,A,K=>vc P T X c A (yT id K)
 |.exit id,A,K=>K (.exit id) A
 |.ret,A,K=>K .ret A
 |c,A,K=>LoopG P X c A K
theorem xo(O:P.follows .mixedOrders=true)(F:fK P T){c:Code}{A:St}{K:Exit->St->Prop}(h:vc P T X c A K):GoodS P X c A K:=by
 induction c generalizing A K with
 |skip=>exact⟨λa w H=>wpIn_skip ⟨A,h,H⟩⟩
 |region id ops draw=>
  cases draw with
  |false=>
   refine⟨λa w H=>?_⟩;obtain⟨L,f,g,B,t,u,v⟩:=rK F _ _ _ _ h;refine wpIn_region ?_;have m:L.length=ops.size:=by
    have:=congrArg List.length f;simpa using this
   have:=gX (P:=P) (Q:=fun e r W=>∃ B:St,K e B/\Rel X B.s B.o r W) L 0 A.s A.o a w (fun j=>by
    have:=congrArg (λl=>l[j]?) f;simpa using this) g H (λr W d=>⟨B,t,by rw[u,v];exact d⟩)
   rw[m,<-List.range_eq_range']at this;exact this
  |true=>
   refine⟨λa w H=>?_⟩;obtain⟨L,f,n,g,hb,R,B,t,u,v⟩:=oN F _ _ _ _ _ h;refine wpIn_region_any O ?_;have m:L.length=ops.size:=by
    have:=congrArg List.length f;simpa using this
   have s:∀j (q:j<L.length),(L[j]).1=j:=by
    intro j q;have:=congrArg (λl=>l[j]?) n;simp[q]at this;have g:=this;rw[υ (by simp;omega)]at g;simpa using g
   have D:∀j (q:j<L.length),ops[j]? =some (L[j]).2.1:=by
    intro j q;have:=congrArg (λl=>l[j]?) f;simp[q]at this;exact this.symm
   refine qT hb ops.size L (Array.replicate ops.size false) A.s A.o a _ m ν ⟨λp E=>?_,λk o N=>?_,?_,?_⟩ (λj o _ C=>?_) (by simpa using R) g H.drew (λr W d=>⟨B,t,by rw[u,v];exact d⟩)
   .obtain⟨j,q,rfl⟩:=List.mem_iff_getElem.1 E;rw[s j q];exact D j q
   .have z:=(Array.getElem?_eq_some_iff.1 N).1;rw[n];simp[z]
   .rw[n];exact List.nodup_range'
   .rw[n];exact List.pairwise_lt_range'
   .simp only[Array.getD_eq_getD_getElem?,Array.getElem?_replicate]at C;split at C<;>simp at C
 |seq x y ihx _=>
  refine⟨λa w H=>?_⟩;refine wpIn_seq (Go.wpIn_mono ((ihx h).run a w H) λe r W=>?_);rintro⟨B,f,g⟩;cases e with
  |normal=>exact f.run r W g
  |_=>exact⟨B,f,g⟩
 |cond c x y _ _=>
  simp only[vc]at h;split at h
  .rename_i b G;refine⟨λa w H=>?_⟩;obtain⟨ρ,Im,d⟩:=H;have e:=(d.opd G).bool_inv;exact wpIn_cond_split e (λS=>(Cq S h).run a w ⟨ρ,Im,d⟩) (λI=>(AJ I h).run a w ⟨ρ,Im,d⟩)
  .exact h.elim
 |block id c ih=>
  refine⟨λa w H=>?_⟩;refine wpIn_block (Go.wpIn_mono ((ih h).run a w H) λe r W=>?_);rintro⟨B,f,g⟩;cases e with
  |exit i=>
   simp only[yT]at f;simp only[Exit.inBlock];split at f
   .rename_i hb;rw[if_pos (Nat.eq_of_beq_eq_true hb)];exact⟨B,f,g⟩
   .rename_i hb;rw[if_neg (λe=>by rw[e,Nat.beq_refl]at hb;cases hb)];exact⟨B,f,g⟩
  |_=>exact⟨B,f,g⟩
 |exit id=>exact⟨λa w H=>wpIn_exit ⟨A,h,H⟩⟩
 |ret=>exact⟨λa w H=>wpIn_ret ⟨A,h,H⟩⟩
 |_=>exact h.good
end
end Go.Nc