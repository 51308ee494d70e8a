/- Parts. -/
import Derived.Test.YtbdkgpcdkalfdaaGreatNdEA
import Derived.RangeFuncNested
namespace Go.Nc
set_option maxHeartbeats 1000000
section
variable {P:Program} {T:kb}
theorem RelAt.setRec{X:Frm}{ρ:Loc}{Im:Nat->Prop}{s:Nat->Option AV}{o:Xd}{a:Act}{w:World}(h:RelAt X ρ Im s o a w){y:Nat}{st pe ks cs ps assign body nt}(A:o y=some (.lrec st pe ks cs ps assign body nt)){l:Nat}(q:(ρ y).1=some l) :
  ∃r,w.heap[l]? =some (.loop r)/\RecOk r st pe ks cs ps assign body nt/\∀S p ob,(ob=.dead\/ob=.lrec S p ks cs ps assign body nt)->RelAt X ρ Im s (gw [(y,some ob)] o) a (w.putObj l (.loop { r with state:=S,pending:=p })):=by
 have L:=h.objs y _ A;cases L with
 |lrec _ _ _ _ _ _ _ _ b r h1 h2 h3 h4=>
 rw[q]at h1;cases h1;refine⟨r,h2,h3,λS p ob m=>?_⟩;have G:l<w.heap.size:=(Array.getElem?_eq_some_iff.1 h2).1;have H:=h.own y _ l A rfl q;have t:∀b,b≠l->(w.putObj l (.loop { r with state:=S,pending:=p })).heap[b]? =w.heap[b]?:=λb hb=>World.putObj_heap_other hb;have d:(w.putObj l (.loop { r with state:=S,pending:=p })).heap[l]? =some (.loop { r with state:=S,pending:=p }):=World.putObj_heap_same G;have u:∀i,i≠y->gw [(y,some ob)] o i=o i:=λi n=>by simp[gw,n]
 have z:∀i,o i≠none->gw [(y,some ob)] o i≠none:=λi n=>by
  by_cases e:i=y
  .subst e;simp[gw]
  .rw[u i e];exact n
 refine h.updI (λi=>i=y) (λb hb=>hb) (λb hb=>.inl hb) (λb hb=>by simpa using h.imlt b hb) rfl rfl rfl ν (λb hb K=>t b λe=>K y _ rfl A rfl (e▸q)) (λ_ _=>rfl) (λi n=>u i n) z (λi N n g=>?_) (λQ R v=>?_)
 .subst n;have e:N=ob:=by simp[gw]at g;exact g.symm
  subst e;rcases m with rfl|rfl
  .exact⟨.dead,λj E=>(by cases E),λD=>(by cases D),λD=>(by cases D)⟩
  .refine⟨.lrec _ _ _ _ _ _ _ _ l _ q d { h3 with st:=rfl,pe:=rfl } λi k c W V=>?_,λj E=>z j (h.ocl _ _ A j (by cases E with |lrec _ _ _ _ _ _ _ _ c hm hn=>exact .lrec _ _ _ _ _ _ _ _ c hm hn)),λ_ b hb=>?_,λ_ b hb I O f F B=>?_⟩
   .obtain⟨x,hx,C⟩:=h4 i k c W V;exact⟨x,hx,C.mono (λb hb=>hb) λb hb=>t b λe=>H.1 (e▸hb)⟩
   .rw[q]at hb;cases hb;exact⟨H.1,by simpa using H.2.1,H.2.2⟩
   .rw[q]at hb;cases hb;by_cases e:I=i
    .exact e
    .rw[u I e]at f;exact h.inj I i O _ l f F A rfl B q
 .by_cases e:Q=l
  .subst e;rw[h2]at v;cases v;exact⟨_,_,d⟩
  .exact⟨R.state,R.pending,(t Q e).trans v⟩
theorem RelAt.allocX{X:Frm}{ρ:Loc}{Im:Nat->Prop}{s:Nat->Option AV}{o:Xd}{a:Act}{w:World}(h:RelAt X ρ Im s o a w)(O:Obj):RelAt X ρ Im s o a (w.alloc O):=by
 exact h.upd (λ_=>False) rfl rfl rfl ν (λb hb _=>Go.heap_alloc_old w O hb) (λ_ _=>rfl) (λ_ _=>rfl) (λ_ h=>h) (λ_ _ h _=>h.elim) (λ_ _ h _=>h.elim)
theorem RelAt.mark{X:Frm}{ρ:Loc}{Im:Nat->Prop}{s:Nat->Option AV}{o:Xd}{a:Act}{w:World}(h:RelAt X ρ Im s o a w) :
  RelAt X ρ Im s o { a with defers:=[{ target:=.collected w.heap.size,args:=#[] }]++a.defers } (w.alloc (.deferred (some []))) :=
 {h.allocX (.deferred (some []))with
  defers:=by
   have b:=(h.allocX (.deferred (some []))).defers;refine⟨λd H=>?_,List.nodup_cons.2 ⟨λi=>?_,b.nd⟩⟩
   .rcases List.mem_cons.1 H with rfl|H
    .exact⟨_,rfl,heap_alloc_new w _,λf=>Nat.lt_irrefl _ (h.imlt _ f),h.size⟩
    .exact b.mark d H
   .obtain⟨D,e,c,_,_⟩:=h.defers.mark _ i;have g:=(Array.getElem?_eq_some_iff.1 c).1;simp only[Deferred.mk.injEq,Target.collected.injEq,and_true]at e;omega }
def nw:List Nat->List AV->List (Nat×AV)
 |k::ks,c::cs=>(k,c)::nw ks cs
 |_,_=>[]
theorem lT:∀{ks:List Nat} {cs:List AV} {k:Nat} {v:AV},mz (nw ks cs) k=some v->∃i:Nat,ks[i]? =some k/\cs[i]? =some v
 |[],_,k,v,h=>by simp[nw,mz]at h
 |_::_,[],k,v,h=>by simp[nw,mz]at h
 |k0::ks,c0::cs,k,v,h=>by
  simp only[nw]at h;rw[jH]at h;split at h
  .rename_i e;cases h;exact⟨0,by simp[e],by simp⟩
  .obtain⟨i,H,a⟩:=lT h;exact⟨i+1,by simpa using H,by simpa using a⟩
def ul:List Nat->List AV->List (Nat×AV)->List (Nat×AV)
 |p::ps,v::vs,E=>ul ps vs ((p,v)::E)
 |_,_,E=>E
theorem wr{ρ:Loc}{Im:Nat->Prop}{H:eZ}:∀(ps:List Nat) (V:List AV) (E:List (Nat×AV)) (tmps:Array Value) (X:List Value),X.length=V.length->(∀p∈ps,p<tmps.size)->
  (∀(i:Nat) (c:AV) (x:Value),V[i]? =some c->X[i]? =some x->Con ρ Im H c x)->(∀k v,mz E k=some v->∃x,tmps[k]? =some x/\Con ρ Im H v x)->
  ∀k v,mz (ul ps V E) k=some v->∃x,((ps.zip X).foldl (λt p=>t.setIfInBounds p.1 p.2) tmps)[k]? =some x/\Con ρ Im H v x
 |[],_,E,tmps,X,_,_,_,hE,k,v,h=>by simpa using hE k v (by simpa[ul]using h)
 |p::ps,[],E,tmps,X,hl,_,_,hE,k,v,h=>by
  have:X=[]:=List.eq_nil_of_length_eq_zero (by simpa using hl);subst this;simpa using hE k v (by simpa[ul]using h)
 |p::ps,u::V,E,tmps,[],hl,_,_,_,_,_,_=>by simp at hl
 |p::ps,u::V,E,tmps,x::X,hl,hp,hc,hE,k,v,h=>by
  simp only[ul]at h;simp only[List.zip_cons_cons,List.foldl_cons];refine wr ps V ((p,u)::E) (tmps.setIfInBounds p x) X (by simpa using hl) (λq hq=>by simpa using hp q (by simp[hq])) (λi c y a b=>hc (i+1) c y (by simpa using a) (by simpa using b)) (λk v h=>?_) k v h;rw[jH]at h;split at h
  .rename_i e;cases h;subst e;exact⟨x,by simp[hp k ν],hc 0 _ x ν ν⟩
  .rename_i e;obtain⟨y,a,b⟩:=hE k v h;exact⟨y,by rw[Array.getElem?_setIfInBounds_ne (Ne.symm e)];exact a,b⟩
theorem zK:∀(ps:List Nat) (X:List Value) (tmps:Array Value),((ps.zip X).foldl (λt p=>t.setIfInBounds p.1 p.2) tmps).size=tmps.size
 |[],_,tmps=>rfl
 |_::_,[],tmps=>rfl
 |p::ps,x::X,tmps=>by simp only[List.zip_cons_cons,List.foldl_cons];rw[zK ps X];simp
theorem wt:∀(ps:List Nat) (V:List AV) (E:List (Nat×AV)) (p:AV->Prop),(∀v∈V,p v)->(∀k v,mz E k=some v->p v)->∀k v,mz (ul ps V E) k=some v->p v
 |[],_,E,p,_,hE,k,v,h=>hE k v (by simpa[ul]using h)
 |_::_,[],E,p,_,hE,k,v,h=>hE k v (by simpa[ul]using h)
 |q::ps,u::V,E,p,hv,hE,k,v,h=>by
  refine wt ps V ((q,u)::E) p (λx H=>hv x (by simp[H])) (λk v h=>?_) k v (by simpa[ul]using h);rw[jH]at h;split at h
  .cases h;exact hv _ ν
  .exact hE k v h
theorem DG(ps:Array Nat)(x:Array Value)(tmps:Array Value):(ps.zip x).foldl (λt (p,v)=>t.setIfInBounds p v) tmps=(ps.toList.zip x.toList).foldl (λt p=>t.setIfInBounds p.1 p.2) tmps:=by
 rw[<-Array.foldl_toList,Array.toList_zip]
structure OutsCl(ids:List Nat)(outs:Xc):Prop where
 cl:∀p∈outs,eu (outs.map (·.1)) p.2
 all:(ids.all λi=>(outs.map (·.1)).elem i)=true
structure RFin(pid:List Nat)(nt yid:Nat)(ks:List Nat)(ps:Array Tmp)(assign body:Code)(st:LoopState)(pe:Option Code)(b:Bool)(Q:Bool->Xc->Prop)(B:St):Prop where
 ex:∃C cs L,c9 pid nt B C/\eU C.objs yid=some (.lrec .busy none ks cs ps assign body nt)/\dT C.o L/\OutsCl pid ((yid,.lrec st pe ks cs ps assign body nt)::L)/\Q b ((yid,.lrec st pe ks cs ps assign body nt)::L)
def MQ(p:List Nat)(nt y:Nat)(ks:List Nat)(ps:Array Tmp)(assign body:Code)(Q:Bool->Xc->Prop):Exit->St->Prop
 |.normal,B=>RFin p nt y ks ps assign body .ready none true Q B
 |.ret,B=>RFin p nt y ks ps assign body .done (some .ret) false Q B
 |.exit id,B=>RFin p nt y ks ps assign body .done (some (.exit id)) false Q B
 |_,_=>False
def Ns(P:Program)(p:List Nat)(nt y:Nat)(ks:List Nat)(ps:Array Tmp)(assign body:Code)(Q:Bool->Xc->Prop):Exit->St->Prop
 |.normal,B=>∃cs,eU B.objs y=some (.lrec .ready none ks cs ps assign body nt)/\GoodE P p nt body ⟨B.env,(y,some (.lrec .busy none ks cs ps assign body nt))::B.objs⟩ (MQ p nt y ks ps assign body Q)
 |_,_=>False
theorem G5{y nt:Nat}{ks:List Nat}{cs:List AV}{ps:Array Tmp}{f:List Nat}{assign body:Code}{L:Xc}{V:List AV}{Q:Bool->Xc->Prop}(hps:ps.toList=f)(hpl:f.length=V.length)(hpn:(f.all λp=>Nat.blt p nt)=true)
  (hcl:(L.all λp=>p.2.live)=true/\ka ((y::L.map (·.1))) V=true/\ka (y::L.map (·.1)) cs=true/\∀p∈L,eu (y::L.map (·.1)) p.2)
  (h:GoodE P (y::L.map (·.1)) nt assign ⟨ul f V (nw ks cs),bg ((y,.lrec .ready none ks cs ps assign body nt)::L)⟩ (Ns P (y::L.map (·.1)) nt y ks ps assign body Q)) :
  ∃b outs,Q b outs/\YSpec P y V ((y,.lrec .ready none ks cs ps assign body nt)::L) b outs:=by
 obtain⟨O,hnv,hnc,hobc⟩:=hcl;obtain⟨I,d⟩:∃I,I=(y,.lrec .ready none ks cs ps assign body nt)::L:=⟨_,rfl⟩;have a:I.map (·.1)=y::L.map (·.1):=by rw[d];rfl
 have hiy:e7 I y=some (.lrec .ready none ks cs ps assign body nt):=by rw[d,c8,if_pos rfl]
 have mw:∀{l:Xc} {id:Nat} {ob:LObj},e7 l id=some ob->(id,ob)∈l:=by
  intro l;induction l with
  |nil=>intro id ob h;simp[e7]at h
  |cons p r ih=>
   obtain⟨k,v⟩:=p;intro id ob h;rw[c8]at h;split at h
   .rename_i hk;cases h;simp[hk]
   .simp[ih h]
 have hob:∀p∈I,eu (I.map (·.1)) p.2:=by
  rw[a,d];intro p hp;rcases List.mem_cons.1 hp with rfl|hp
  .exact hnc
  .exact hobc p hp
 have hlv:∀id ob,e7 I id=some ob->ob.live=true:=by
  intro id ob s;have g:=mw s;rw[d]at g;rcases List.mem_cons.1 g with e|g
  .cases e;rfl
  .exact(List.all_eq_true.1 O) _ g
 have hlO:∀i,eU (bg I) i=e7 I i:=by
  intro i;clear h hob hlv hiy a d mw;induction I with
  |nil=>rfl
  |cons p r ih=>obtain⟨k,v⟩:=p;simp only[bg,eU,e7,ih]
 rw[<-d,<-a]at h;rw[<-d];obtain⟨e,B,hk,hrun⟩:=h;cases e with
 |normal=>
  obtain⟨o,hB,e2,B2,q,W⟩:=hk;have key:∀(st:LoopState) (pe:Option Code) (b:Bool),RFin (I.map (·.1)) nt y ks ps assign body st pe b Q B2->(e2=.normal/\st=.ready/\pe=none/\b=true\/e2=.ret/\st=.done/\pe=some .ret/\b=false\/∃id,e2=.exit id/\st=.done/\pe=some (.exit id)/\b=false)->
    ∃b outs,Q b outs/\YSpec P y V I b outs:=by
   intro st pe b ⟨C,E,L2,hg,hC,hL2,z,hQ⟩ N;refine⟨b,_,hQ,λid ob s i hi=>bJ.2 (dV (hob _ (mw s)) hi),hlv,λw ρ Im xs l g hx s=>?_⟩;have hoy:=g.objs y _ hiy;cases hoy with
   |lrec _ _ _ _ _ _ _ _ b0 r h1 h2 h3 h4=>
   rw[s]at h1;cases h1;have hxs:xs.size=V.length:=hx.1;have hsz:xs.size=r.params.size:=by rw[h3.ps,hxs,<-hpl,<-hps];simp
   refine⟨r.fn,_,r.assign,r.body,run_yield h2 hsz,?_⟩;rw[h3.assign,h3.body,h3.ps,DG,hps];refine roundIn_of_wpIn (F:=Fence.wide) trivial ?_;have hpt:∀p∈f,p<r.tmps.size:=λp hp=>by rw[h3.nt];exact Nat.blt_eq.mp ((List.all_eq_true.1 hpn) p hp)
   have R:Rel ⟨⟨w,some l⟩,Im,I.map (·.1),ρ,nt⟩ (St.mk (ul f V (nw ks cs)) (bg I)).s (St.mk (ul f V (nw ks cs)) (bg I)).o { tmps:=(f.zip xs.toList).foldl (λt p=>t.setIfInBounds p.1 p.2) r.tmps,defers:=[] } w:=by
    have eo:(St.mk (ul f V (nw ks cs)) (bg I)).o=e7 I:=funext hlO;rw[eo];exact ⟨ρ,Im,
     {objs:=g.objs,own:=g.own,inj:=g.inj,ocl:=g.ocl,imlt:=g.imlt,im0:=g.im0,imf:=g.imf,os:=g.os,tape:=g.tape,output:=g.output,size:=g.size,frame:=g.frame,pin:=g.pin,lrc:=g.lrc,
      rnd:=λl' hl'=>by cases hl';exact⟨r,h2⟩,defers:=DefOk.nil _ _ _,nt:=by rw[zK,h3.nt],
      slots:=wr f V (nw ks cs) r.tmps xs.toList (by simpa using hxs) hpt (λi c x m G=>hx.2 i c x m (by simpa using G)) λk v hv=>by
       obtain⟨i,m,G⟩:=lT hv;exact h4 i k v m G
      scl := fun k v hv i hi=>bJ.2 (by
       have:=wt f V (nw ks cs) (fun v=>gu (I.map (·.1)) v = true) (fun v hv=>by rw [a];exact d7 hnv v hv) (fun k v hv=>by
        obtain⟨i,m,G⟩:=lT hv;rw[a];exact d7 hnc v (List.mem_of_getElem? G)) k v hv
       exact cH hi this) }⟩
   refine Go.wpIn_mono ((hrun ⟨w,some l⟩ Im ρ).run _ w R) λe' a1 w1=>?_;rintro⟨D,⟨rfl,rfl⟩,ρ1,Im1,hr1⟩;have hp1:ρ1 y=ρ y:=(hr1.pin y (by show y∈I.map (·.1);rw[a];simp)).1;have hl1:(ρ1 y).1=some l:=by rw[hp1];exact s
   obtain⟨r1,hw1,A,X⟩:=hr1.setRec hB hl1;have S:=X .busy none _ (.inr rfl);refine⟨_,run_beginRound hw1 A.st,?_⟩;have K:({ r1 with state:=.busy }:Loop)={ r1 with state:=.busy,pending:=none }:=by
    have:=A.pe;cases r1;simp only at this;subst this;rfl
   rw[K];have u:Rel ⟨⟨w,some l⟩,Im,I.map (·.1),ρ,nt⟩ (St.mk D.env ((y,some (.lrec .busy none ks o ps assign body nt))::D.objs)).s (St.mk D.env ((y,some (.lrec .busy none ks o ps assign body nt))::D.objs)).o a1 (w1.putObj l (.loop { r1 with state:=.busy,pending:=none })):=by
    refine⟨ρ1,Im1,?_⟩;have eo:(St.mk D.env ((y,some (.lrec .busy none ks o ps assign body nt))::D.objs)).o=gw [(y,some (.lrec .busy none ks o ps assign body nt))] D.o:=by
     funext i;show eU _ i=_;rw[gN];rfl
    rw[eo];exact S
   refine Go.wpIn_mono ((W ⟨w,some l⟩ Im ρ).run _ _ u) λe' a2 w2=>?_;rintro⟨B2',⟨rfl,rfl⟩,hr2⟩;obtain⟨ρ3,Im3,hr3⟩:=(hg ⟨w,some l⟩ Im ρ).run _ _ hr2;have hl3:(ρ3 y).1=some l:=by
    rw[(hr3.pin y (by show y∈I.map (·.1);rw[a];simp)).1];exact s
   obtain⟨r3,hw3,hrk3,hset3⟩:=hr3.setRec hC hl3;have H:=hset3 st pe _ (.inr rfl);have n:∃ρ' Im',Ending.returned (.bool b)=.returned (.bool b)/\Mem (cG w Im I ρ 0) ρ' Im' (e7 ((y,.lrec st pe ks E ps assign body nt)::L2)) (w2.putObj l (.loop { r3 with state:=st,pending:=pe })):=by
    have ho:∀i ob,e7 ((y,.lrec st pe ks E ps assign body nt)::L2) i=some ob->gw [(y,some (.lrec st pe ks E ps assign body nt))] C.o i=some ob:=by
     intro i ob m;rw[c8]at m;show(if i=y then some _ else _)=_;split at m
     .rename_i e;rw[if_pos e];exact m
     .rename_i e;rw[if_neg e];exact il hL2 i ob m
    refine⟨ρ3,Im3,rfl,?_⟩;exact
     {objs:=fun i ob m=>H.objs i ob (ho i ob m),own:=fun i ob b' m=>H.own i ob b' (ho i ob m),inj:=fun i i' ob ob' b' m G h7=>H.inj i i' ob ob' b' (ho i ob m) G (ho i' ob' h7),
      ocl:=λi ob m j hj=>bJ.2 (dV (z.cl _ (mw m)) hj),imlt:=H.imlt,im0:=H.im0,imf:=H.imf,os:=H.os,tape:=H.tape,output:=H.output,size:=H.size,frame:=H.frame,
      pin:=fun i hi=>⟨(H.pin i hi).1,bJ.2 (by
       have:=(List.all_eq_true.1 z.all) i hi;simpa using this)⟩,lrc:=H.lrc,rnd:=λl s=>by cases s }
   rcases N with⟨rfl,rfl,rfl,rfl⟩|⟨rfl,rfl,rfl,rfl⟩|⟨id,rfl,rfl,rfl,rfl⟩
   .exact⟨_,_,run_endRound none hw3,n⟩
   .exact⟨_,_,run_endRound (some .ret) hw3,n⟩
   .exact⟨_,_,run_endRound (some (.exit id)) hw3,n⟩
  cases e2 with
  |normal=>exact key _ _ _ q (.inl ⟨rfl,rfl,rfl,rfl⟩)
  |ret=>exact key _ _ _ q (.inr (.inl ⟨rfl,rfl,rfl,rfl⟩))
  |exit id=>exact key _ _ _ q (.inr (.inr ⟨id,rfl,rfl,rfl,rfl⟩))
  |_=>exact q.elim
 |_=>exact hk.elim
def HM(pe:Option Code):Option Exit:=match pe with
 |none=>some .normal
 |some .ret=>some .ret
 |some (.exit id)=>some (.exit id)
 |_=>none
def G6(pe:Option Code)(K:Exit->St->Prop)(B:St):Prop:=match HM pe with
 |some e=>K e B
 |none=>False
structure RangeK(A:St)(yid nt:Nat)(ks:List Nat)(ps:Array Tmp)(assign body:Code)(L outs:Xc)(K:Exit->St->Prop):Prop where
 ex:∃st pe cs L',outs=(yid,.lrec st pe ks cs ps assign body nt)::L'/\st≠.busy/\fI A.o L L'/\G6 pe K ⟨nw ks cs,(yid,some .dead)::(bg L'++A.objs)⟩
theorem ye(l:Xc)(O:Xb)(i:Nat):eU (bg l++O) i=gw (bg l) (eU O) i:=by
 induction l with
 |nil=>rfl
 |cons p r ih=>
  obtain⟨k,v⟩:=p;simp only[bg,List.cons_append,gN,gw,ih]
theorem yf{o:List Nat}{nt:Nat}{A:St}{g:Operand}{ps:Array Tmp}{assign body:Code}{K:Exit->St->Prop}(d:Nat){gf:FuncId}{f:List AV}(hg:cm A.s g=some (.fn gf f))(hy:eU A.objs d=none)
  (L:Xc) (hL:dT A.o L) (ks:List Nat) (cs:List AV) (hlen:ks.length=cs.length) (E:∀(i k:Nat) (c:AV),ks[i]? =some k->cs[i]? =some c->mz A.env k=some c) {α:Type} {r:α->AV} {outs:α->Xc} {Q:α->Prop}
  (hspec:∃x,Q x/\CallSpec P gf (.yld d::f) ((d,.lrec .ready none ks cs ps assign body nt)::L) (r x) (outs x)) (hK:∀x,Q x->RangeK A d nt ks ps assign body L (outs x) K):LoopE P o nt (.rangeFunc g ps assign body) A K:=by
 obtain⟨x,hQ,hs⟩:=hspec;obtain⟨st,pe,C,z,hout,hst,hol,S⟩:=hK x hQ;rw[hout]at hs;have go : ∀(e:Exit),HM pe=some e->K e ⟨nw ks C,(d,some .dead)::(bg z++A.objs)⟩->LoopE P o nt (.rangeFunc g ps assign body) A K:=by
  intro e he hKe;clear S hout hK;refine⟨⟨e,_,hKe,λw0 I N=>⟨λa w hr=>?_⟩⟩⟩;obtain⟨ρ,Im,hr⟩:=hr;refine Go.wpIn_rangeFunc λfn _=>?_
  --the record is laid
  have entry:∃(l:Nat) (m:List Deferred) (W:World) (n:Loc) (rc:Loop),(Instr.enterLoop fn a.tmps ps assign body w0.ro).run P w=.ok (l,m) W/\(n d).1=some l/\W.heap[l]? =some (.loop rc)/\rc.tmps=a.tmps/\
    (∀i,A.o i≠none->n i=ρ i)/\RelAt ⟨w0,I,o,N,nt⟩ n Im A.s (gw [(d,some (.lrec .ready none ks cs ps assign body nt))] A.o) { a with defers:=m++a.defers } W:=by
   have lay:∀(a':Act) (w':World) (D:Nat),a'.tmps=a.tmps->RelAt ⟨w0,I,o,N,nt⟩ ρ Im A.s A.o a' w'->RelAt ⟨w0,I,o,N,nt⟩ (ρ.set d (some w'.heap.size,0)) Im A.s (gw [(d,some (.lrec .ready none ks cs ps assign body nt))] A.o) a' (w'.alloc (.loop { state:=.ready,pending:=none,fn,tmps:=a.tmps,params:=ps,assign,body,defers:=D })):=by
    intro a' w' D ha t;refine t.new hy (.loop { state:=.ready,pending:=none,fn,tmps:=a.tmps,params:=ps,assign,body,defers:=D }) 0 _ ?_ (λi H=>?_)
    .refine .lrec _ _ _ _ _ _ _ _ w'.heap.size _ (by rw[Loc.set_same]) (heap_alloc_new w' _) ⟨rfl,rfl,rfl,rfl,rfl,by rw[<-ha];exact t.nt,hlen⟩ λi k c hk hc=>?_;obtain⟨x,hx,hcx⟩:=t.slots k c (E i k c hk hc);refine⟨x,by rw[<-ha];exact hx,(hcx.mono (λb hb=>hb) λb hb=>Go.heap_alloc_old w' _ (t.imlt b hb)).reloc λj S=>Loc.set_ne _ _ λe=>t.scl k c (E i k c hk hc) j S (by rw[e];exact hy)⟩
    .cases H with
     |lrec _ _ _ _ _ _ _ _ c hm hn=>
      obtain⟨j,S⟩:=List.mem_iff_getElem?.1 hm;obtain⟨k,hk⟩:∃k,ks[j]? =some k:=⟨ks[j]'(by rw[hlen];exact(List.getElem?_eq_some_iff.1 S).1),by simp⟩;exact t.scl k c (E j k c hk S) i hn
   have s:∀i,A.o i≠none->i≠d:=λi H e=>H (by rw[e];exact hy);cases hro:w0.ro with
   |none=>
    have O:=hr.mark;refine⟨_,_,_,_,{ state:=.ready,pending:=none,fn,tmps:=a.tmps,params:=ps,assign,body,defers:=w.heap.size },run_enterLoop_outer fn a.tmps ps assign body,?_,?_,rfl,λi H=>Loc.set_ne _ _ (s i H),lay _ _ _ rfl O⟩
    .rw[Loc.set_same];simp
    .have:=heap_alloc_new (w.alloc (.deferred (some []))) (.loop { state:=.ready,pending:=none,fn,tmps:=a.tmps,params:=ps,assign,body,defers:=w.heap.size });simpa using this
   |some l0=>
    obtain⟨r0,hr0⟩:=hr.rnd l0 hro;obtain⟨st0,pe0,hl0⟩:=hr.lrc l0 r0 hr0;refine⟨_,_,_,_,_,run_enterLoop_inner hl0 fn a.tmps ps assign body,?_,heap_alloc_new w _,rfl,λi H=>Loc.set_ne _ _ (s i H),lay _ _ _ rfl hr⟩;rw[Loc.set_same]
  obtain⟨l,m,W,n,rc,hent,hl,hrc,htm,hρ1,hr1⟩:=entry
  --the call
  have hgc:=hr1.opd (show cm A.s g=some (.fn gf f)from hg);obtain⟨u,hge,hyl,hyc⟩:∃u,a.eval g=.func (.func gf) #[] u/\u.size=f.length/\∀(i:Nat) (c:AV) (x:Value),f[i]? =some c->u[i]? =some x->Con n Im W.heap c x:=by
   have hge:({ a with defers:=m++a.defers }:Act).eval g=a.eval g:=by cases g<;>rfl
   rw[hge]at hgc;generalize a.eval g=y at hgc;cases hgc with
   |imm _ _ H=>
    cases H with
    |fn _ _ u O h2=>exact⟨u,rfl,O,λi c x h3 h4=>.imm _ _ (h2 i c x h3 h4)⟩
   |fn _ _ u O h2=>exact⟨u,rfl,O,h2⟩
  have hin1:dT (gw [(d,some (.lrec .ready none ks cs ps assign body nt))] A.o) ((d,.lrec .ready none ks cs ps assign body nt)::L):=by
   refine⟨by simp[gw],?_⟩;refine fV (λi H=>?_) hL;have s:i≠d:=λe=>by
    have O:∀(l:Xc),dT A.o l->i∈l.map (·.1)->A.o i≠none:=by
     intro l;induction l with
     |nil=>intro _ h;simp at h
     |cons p q ih=>
      intro h2 h3;rcases List.mem_cons.1 h3 with h4|h4
      .rw[h4,h2.1];simp
      .exact ih h2.2 h4
    exact O L hL H (by rw[e];exact hy)
   simp[gw,s]
  have hout1:fI (gw [(d,some (.lrec .ready none ks cs ps assign body nt))] A.o) ((d,.lrec .ready none ks cs ps assign body nt)::L) ((d,.lrec st pe ks C ps assign body nt)::z):=by
   refine⟨by rw[c8,if_pos rfl];trivial,?_⟩;clear hs he hKe;induction z with
   |nil=>trivial
   |cons p q ih=>
    refine⟨?_,ih hol.2⟩;have O:=hol.1;rw[c8];by_cases e:p.1=d
    .rw[if_pos e];trivial
    .rw[if_neg e];cases h2:e7 L p.1 with
     |some _=>trivial
     |none=>rw[h2]at O;simpa[gw,e]using O
  obtain⟨hmem,hback⟩:=hr1.callK hs.icl hs.live hin1 hout1;have hcons:Cons n Im W.heap (.yld d::f) (#[.func (.yield l) #[] #[]]++u):=by
   refine⟨by simp[hyl];omega,λi c x hci G=>?_⟩;cases i with
   |zero=>
    have e0:(#[Value.func (.yield l) #[] #[]]++u)[0]? =some (.func (.yield l) #[] #[]):=by rw[Array.getElem?_append_left ν];rfl
    rw[e0]at G;simp at hci G;subst hci;subst G;exact .yld d l hl
   |succ i=>
    refine hyc i c x (by simpa using hci) ?_;rw[Array.getElem?_append_right ν]at G;simpa using G
  have hcall:=hs.calls W n Im _ hmem hcons;refine⟨l,m,W,{ target:=.fn (.func gf) u,args:=#[.func (.yield l) #[] #[]] },W,gf,#[.func (.yield l) #[] #[]]++u,W,hent,?_,λ_ _=>trivial,?_,λe=>(by cases e),?_⟩;rotate_right;refine ry (hcall.mono λev w3=>?_);rotate_left
  .simp only[resolve,hge];simp[go_sem]
  .simp[invoke,go_sem,hs.enter]
  .rintro⟨y,ρ3,Im3,rfl,_,_,hm⟩;obtain⟨ρ4,h4,_,X⟩:=hback w3 ρ3 Im3 hm;have hp3:ρ3 d=n d:=(hm.pin d (by show d∈List.map _ _;simp)).1;have hly:e7 ((d,LObj.lrec st pe ks C ps assign body nt)::z) d=some (.lrec st pe ks C ps assign body nt):=by rw[c8,if_pos rfl]
   have hl4:(ρ4 d).1=some l:=by rw[h4 d (by rw[hly];simp),hp3];exact hl
   have V:gw (bg ((d,.lrec st pe ks C ps assign body nt)::z)) (gw [(d,some (.lrec .ready none ks cs ps assign body nt))] A.o) d=some (.lrec st pe ks C ps assign body nt):=by
    rw[dq,hly]
   obtain⟨R,hw4,hrk4,hset4⟩:=X.setRec V hl4;have hrel5:=hset4 .exhausted R.pending _ (.inl rfl);have htm4:R.tmps=a.tmps:=by
    obtain⟨s2,p2,h5⟩:=hm.lrc l rc hrc;rw[hw4]at h5;cases h5;exact htm
   have hrel6:Rel ⟨w0,I,o,N,nt⟩ (St.mk (nw ks C) ((d,some .dead)::(bg z++A.objs))).s (St.mk (nw ks C) ((d,some .dead)::(bg z++A.objs))).o { a with defers:=m++a.defers } (w3.putObj l (.loop { R with state:=.exhausted,pending:=R.pending })):=by
    refine⟨ρ4,Im3,?_⟩;have eo:(St.mk (nw ks C) ((d,some .dead)::(bg z++A.objs))).o=gw [(d,some .dead)] (gw (bg ((d,.lrec st pe ks C ps assign body nt)::z)) (gw [(d,some (.lrec .ready none ks cs ps assign body nt))] A.o)):=by
     funext i;show eU _ i=_;rw[gN];by_cases e:i=d
     .rw[if_pos e];simp[gw,e]
     .rw[if_neg e,ye];simp only[gw,e,if_false,bg];have:∀(l:Xc),gw (bg l) (eU A.objs) i=gw (bg l) (λi=>if i=d then some (.lrec .ready none ks cs ps assign body nt)else A.o i) i:=by
       intro l;rw[dq,dq,if_neg e];rfl
      exact this z
    rw[eo];have s:∀b,b≠l->(w3.putObj l (.loop { R with state:=.exhausted,pending:=R.pending })).heap[b]? =w3.heap[b]?:=λb hb=>World.putObj_heap_other hb;have hnim:=(X.own d _ l V rfl hl4).1;have hobr:=X.objs d _ V;exact { hrel5 with
     slots:=λk v hv=>by
      obtain⟨i,h5,h6⟩:=lT hv;cases hobr with
      |lrec _ _ _ _ _ _ _ _ b r2 h7 h8 h9 h10=>
      rw[hl4]at h7;cases h7;rw[hw4]at h8;cases h8;obtain⟨x,hx,hc⟩:=h10 i k v h5 h6;exact⟨x,by rw[<-htm4];exact hx,hc.mono (λb hb=>hb) λb hb=>s b λe=>hnim (e▸hb)⟩
     scl:=λk v hv i H=>by
      obtain⟨j,h5,h6⟩:=lT hv;have:=X.ocl d _ V i (.lrec _ _ _ _ _ _ _ _ v (List.mem_of_getElem? h6) H);by_cases e:i=d
      .simp[gw,e]
      .simpa[gw,e]using this }
   have hend:=run_endLoop (P:=P) hw4 (by rw[hrk4.st];exact hst);rw[show Result.ok R.pending (w3.putObj l (.loop { R with state:=.exhausted }))=Result.ok pe (w3.putObj l (.loop { R with state:=.exhausted })) by rw[<-hrk4.pe]]at hend;refine⟨pe,w3.putObj l (.loop { R with state:=.exhausted }),hend,?_⟩
   .skip;have F:∀e':Exit,e'=e->∃B:St,(e'=e/\B=⟨nw ks C,(d,some .dead)::(bg z++A.objs)⟩)/\Rel ⟨w0,I,o,N,nt⟩ B.s B.o { a with defers:=m++a.defers } (w3.putObj l (.loop { R with state:=.exhausted })):=λe' h=>⟨_,⟨h,rfl⟩,hrel6⟩;cases pe with
    |none=>exact F .normal (Option.some.inj he)
    |some c=>
     cases c with
     |ret=>exact wpIn_ret (F .ret (Option.some.inj he))
     |exit id=>exact wpIn_exit (F (.exit id) (Option.some.inj he))
     |_=>cases he
 unfold G6 at S;split at S
 .rename_i e he;exact go e he S
 .exact S.elim
end
mutual
theorem yg{ids I:List Nat}(H:∀i∈ids,i∈I):∀v:AV,gu ids v=true->gu I v=true
 |.fn g cs,h=>by unfold gu at h⊢;exact oi H cs h
 |.agg cs,h=>by unfold gu at h⊢;exact oi H cs h
 |.tup cs,h=>by unfold gu at h⊢;exact oi H cs h
 |.lptr ..,h|.osl ..,h|.osub ..,h|.optr ..,h|.mref ..,h|.yld ..,h=>by
  unfold gu at h⊢;exact List.elem_eq_true_of_mem (H _ (List.mem_of_elem_eq_true h))
 |.int ..,_|.bool ..,_|.str ..,_|.junk,_|.isl ..,_|.icap ..,_|.eptr ..,_|.ibox ..,_|.nils,_|.emp,_|.niface,_|.nfunc,_|.nptr,_|.nmap,_|.iface ..,_=>rfl
theorem oi{ids I:List Nat}(H:∀i∈ids,i∈I):∀l:List AV,ka ids l=true->ka I l=true
 |[],_=>rfl
 |c::cs,h=>by
  unfold ka at h⊢;rw[Bool.and_eq_true]at h⊢;exact⟨yg H c h.1,oi H cs h.2⟩
end
theorem lU{ids I:List Nat}(H:∀i∈ids,i∈I){ob:LObj}(h:eu ids ob):eu I ob:=by
 cases ob with
 |box cs=>exact oi H _ h
 |arr n sz get T=>exactλi b=>oi H _ (h i b)
 |map kvs=>exactλk v a=>⟨yg H _ (h k v a).1,yg H _ (h k v a).2⟩
 |lrec=>exact oi H _ h
 |dead=>trivial
theorem wu{k:Nat}{v:LObj}{r:Xc}{n:Nat}:e7 ((k,v)::r) n=if n=k then some v else e7 r n:=by simp only[e7,aJ]
theorem wv:∀{l:Xc},(l.map (·.1)).Nodup->∀p∈l,e7 l p.1=some p.2
 |[],_,p,h=>by simp at h
 |(k,v)::r,hn,p,h=>by
  simp only[List.map_cons,List.nodup_cons]at hn;rw[wu];rcases List.mem_cons.1 h with rfl|h
  .rw[if_pos rfl]
  .have H:p.1≠k:=λe=>hn.1 (by rw[<-e];exact List.mem_map.2 ⟨p,h,rfl⟩);rw[if_neg H];exact wv hn.2 p h
theorem ox:∀{l:Xc} {i:Nat} {ob:LObj},e7 l i=some ob->(i,ob)∈l
 |[],_,_,h=>by simp[e7]at h
 |(k,v)::r,i,ob,h=>by
  rw[wu]at h;split at h
  .rename_i e;cases h;simp[e]
  .simp[ox h]
theorem i4{o:Xd}:∀{l:Xc},(∀p∈l,o p.1=some p.2)->dT o l
 |[],_=>trivial
 |(a,b)::_,h=>⟨h (a,b) ν,i4 λq hq=>h q (by simp[hq])⟩
theorem sE{o:Xd}{I:Xc}:∀{l:Xc},(∀p∈l,p.1∈I.map (·.1))->fI o I l
 |[],_=>trivial
 | (i,b) :: _,h=>⟨by
   cases hl:e7 I i with
   |some _=>trivial
   |none=>exact absurd hl (bJ.2 (h (i,b) ν)),sE λq hq=>h q (by simp[hq])⟩
theorem qi(l:Xc)(i:Nat):eU (bg l) i=e7 l i:=by
 have:=ye l [] i;rw[List.append_nil,dq]at this;rw[this];cases e7 l i<;>rfl
theorem ww(l:Xc)(O:Xb)(i:Nat):eU (bg l++O) i=match e7 l i with |some ob=>some ob|none=>eU O i:=by
 rw[ye,dq];cases e7 l i<;>rfl
theorem zL{w objs:Xb}{k:Xb->Prop}(h:k (w++objs)):J8 w objs k:=by
 unfold J8;split<;>exact h
theorem G7{e:List (Nat×AV)}{objs:Xb}{E:Eff}{k:St->Prop}(h:k ((St.mk e objs).app E)):Kc e objs E k:=by
 obtain⟨R,r,w,W⟩:=E;cases w with
 |none=>exact zL (k:=λobjs=>k ⟨e,objs⟩) h
 |some p=>
  obtain⟨d,v⟩:=p;exact zL (k:=λobjs=>k ⟨(d,v)::e,objs⟩) h
theorem yh{p:List Nat}{nt:Nat}{A B:St}(E:∀k v,B.s k=some v->∃u,A.s k=some u/\AvLe u v)(f:∀i ob,B.o i=some ob->∃e,A.o i=some e/\ObLe e ob)
  (hcl:∀i ob,B.o i=some ob->∀j,NamesO j ob->B.o j≠none) (g:∀k v,B.s k=some v->∀j,Names j v->B.o j≠none) (C:∀i∈p,B.o i≠none):c9 p nt A B:=by
 intro W m R;refine⟨λa w D=>?_⟩;obtain⟨ρ,Im,h⟩:=D;have d:∀{u v:LObj},ObLe u v->v.live=true->u.live=true:=λH c=>by rw[H.live];exact c
 refine ⟨ρ,Im,
  {objs:=fun i ob hb=>?_,own:=fun i ob b hb z y=>?_,inj:=fun i I ob o b H c n q r s=>?_,ocl:=hcl,imlt:=h.imlt,im0:=h.im0,imf:=h.imf,os:=h.os,tape:=h.tape,output:=h.output,size:=h.size,frame:=h.frame,
   pin:=λi l=>⟨(h.pin i l).1,C i l⟩,lrc:=h.lrc,rnd:=h.rnd,slots:=λk v F=>?_,scl:=g,defers:=h.defers,nt:=h.nt }⟩
 .obtain⟨e,H,c⟩:=f i ob hb;exact c.con _ _ _ _ (h.objs i e H)
 .obtain⟨e,H,c⟩:=f i ob hb;exact h.own i e b H (d c z) y
 .obtain⟨P,K,L⟩:=f i ob H;obtain⟨Q,N,O⟩:=f I o n;exact h.inj i I P Q b K (d L c) N (d O q) r s
 .obtain⟨u,H,c⟩:=E k v F;obtain⟨x,G,t⟩:=h.slots k u H;exact⟨x,G,c.con _ _ _ _ t⟩
def B3(E:List (Nat×AV))(ids:List Nat):List (Nat×AV)->Prop
 |[]=>True
 |(k,v)::r=>(gu ids v=true/\match mz E k with |some u=>AvLe u v|none=>False)/\B3 E ids r
theorem nh{E:List (Nat×AV)}{ids:List Nat}:∀{l:List (Nat×AV)},B3 E ids l->∀k v,mz l k=some v->(∀i,Names i v->i∈ids)/\∃u,mz E k=some u/\AvLe u v
 |[],_,k,v,h=>by simp[mz]at h
 |(k0,v0)::r,hs,k,v,h=>by
  rw[jH]at h;split at h
  .rename_i e;cases h;subst e;obtain⟨⟨a,H⟩,_⟩:=hs;refine⟨λi b=>cH b a,?_⟩;cases hl:mz E k with
   |none=>rw[hl]at H;exact H.elim
   |some u=>rw[hl]at H;exact⟨u,rfl,H⟩
  .exact nh hs.2 k v h
theorem yi{P:List Nat}{nt:Nat}{A:St}{e:List (Nat×AV)}{L:Xc}(d:∀i∈P,i∈L.map (·.1))(c:∀p∈L,eU A.objs p.1=some p.2)(hcl:∀p∈L,eu (L.map (·.1)) p.2)(b:B3 A.env (L.map (·.1)) e):c9 P nt A ⟨e,bg L⟩:=by
 have E:∀i,(St.mk e (bg L)).o i=e7 L i:=λi=>qi L i;refine yh (λk v a=>(nh b k v a).2) (λi ob h=>?_) (λi ob h j H=>?_) (λk v a j H=>?_) λi h=>?_
 .rw[E]at h;exact⟨ob,c _ (ox h),cy⟩
 .rw[E]at h⊢;exact bJ.2 (dV (hcl _ (ox h)) H)
 .rw[E];exact bJ.2 ((nh b k v a).1 j H)
 .rw[E];exact bJ.2 (d i h)
theorem qj{p:List Nat}{nt:Nat}{E:List (Nat×AV)}{O:Xb}{k:Nat}(h:eU O k=none):c9 p nt ⟨E,O⟩ ⟨E,(k,none)::O⟩:=λW I b=>by
 have e:(St.mk E ((k,none)::O)).o=(St.mk E O).o:=by
  funext i;show eU _ i=eU _ i;rw[gN];split
  .rename_i e;rw[e,h]
  .rfl
 refine⟨λa w H=>?_⟩;rw[e];exact H
structure Fam{σ:Type}(ids:List Nat)(O:σ->Xc):Prop where
 same:∀s,(O s).map (·.1)=ids
 nd:ids.Nodup
 live:∀s,∀p∈O s,p.2.live=true
 cl:∀s,∀p∈O s,eu ids p.2
section
variable {σ:Type} {ids:List Nat} {O:σ->Xc}
theorem Fam.lu(h:Fam ids O)(s:σ):∀p∈O s,e7 (O s) p.1=some p.2:=wv (by rw[h.same];exact h.nd)
theorem Fam.outs{a:Type}{X:a->Xc}(h:Fam ids O)(k:Fam ids X)(s:σ)(t:a)(o:Xd):fI o (O s) (X t):=sE λp H=>by
 rw[h.same,<-k.same t];exact List.mem_map.2 ⟨p,H,rfl⟩
theorem Fam.free(h:Fam ids O)(s:σ){i:Nat}(H:i∉ids):e7 (O s) i=none:=by
 cases hl:e7 (O s) i with
 |none=>rfl
 |some ob=>exact absurd (by rw[<-h.same s];exact bJ.1 (by rw[hl];simp)) H
theorem Fam.luBA(h:Fam ids O)(s:σ)(X:Xb):∀p∈O s,eU (bg (O s)++X) p.1=some p.2:=λp H=>by
 rw[ww,h.lu s p H]
theorem Fam.clB(h:Fam ids O)(s:σ):∀p∈O s,eu ((O s).map (·.1)) p.2:=λp H=>by rw[h.same];exact h.cl s p H
theorem Fam.liveB(h:Fam ids O)(s:σ):((O s).all λp=>p.2.live)=true:=List.all_eq_true.2 λp H=>h.live s p H
end
end Go.Nc