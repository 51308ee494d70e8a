/- Parts. -/
import Derived.Test.YtooapceogfengaaGreatNcEA
import Derived.RangeFuncNested
namespace Go.Nc
set_option maxHeartbeats 1000000
section
variable {P:Program} {T:Tab}
theorem RelAt.setRec{X:Frm}{ρ:Loc}{Im:Nat->Prop}{s:Nat->Option AV}{o:Xd}{a:Act}{w:World}(h:RelAt X ρ Im s o a w){yid:Nat}{st pe ks cs ps assign body nt}(ho:o yid=some (.lrec st pe ks cs ps assign body nt)){l:Nat}(hl:(ρ yid).1=some l) :
  ∃r,w.heap[l]? =some (.loop r)/\RecOk r st pe ks cs ps assign body nt/\∀st' pe' ob,(ob=.dead\/ob=.lrec st' pe' ks cs ps assign body nt)->RelAt X ρ Im s (luO [(yid,some ob)] o) a (w.putObj l (.loop { r with state:=st',pending:=pe' })):=by
 have hob:=h.objs yid _ ho;cases hob with
 |lrec _ _ _ _ _ _ _ _ b r h1 h2 h3 h4=>
 rw[hl]at h1;cases h1;refine⟨r,h2,h3,λst' pe' ob hcase=>?_⟩;have hlt:l<w.heap.size:=(Array.getElem?_eq_some_iff.1 h2).1;have hown:=h.own yid _ l ho rfl hl;have hne:∀b,b≠l->(w.putObj l (.loop { r with state:=st',pending:=pe' })).heap[b]? =w.heap[b]?:=λb hb=>World.putObj_heap_other hb;have hsame:(w.putObj l (.loop { r with state:=st',pending:=pe' })).heap[l]? =some (.loop { r with state:=st',pending:=pe' }):=World.putObj_heap_same hlt;have ho':∀i,i≠yid->luO [(yid,some ob)] o i=o i:=λi hi=>by simp[luO,hi]
 have hal:∀i,o i≠none->luO [(yid,some ob)] o i≠none:=λi hi=>by
  by_cases e:i=yid
  ·subst e;simp[luO]
  ·rw[ho' i e];exact hi
 refine h.updI (λi=>i=yid) (λb hb=>hb) (λb hb=>.inl hb) (λb hb=>by simpa using h.imlt b hb) rfl rfl rfl η (λb hb hnb=>hne b λe=>hnb yid _ rfl ho rfl (e▸hl)) (λ_ _=>rfl) (λi hi=>ho' i hi) hal (λi ob2 hi hob2=>?_) (λl2 r2 hr2=>?_)
 ·subst hi;have e:ob2=ob:=by simp[luO]at hob2;exact hob2.symm
  subst e;rcases hcase with rfl|rfl
  ·exact⟨.dead,λj hj=>(by cases hj),λhf=>(by cases hf),λhf=>(by cases hf)⟩
  ·refine⟨.lrec _ _ _ _ _ _ _ _ l _ hl hsame { h3 with st:=rfl,pe:=rfl } λi k c hk hc=>?_,λj hj=>hal j (h.ocl _ _ ho j (by cases hj with |lrec _ _ _ _ _ _ _ _ c hm hn=>exact .lrec _ _ _ _ _ _ _ _ c hm hn)),λ_ b hb=>?_,λ_ b hb id' ob' hob' hl' hb'=>?_⟩
   ·obtain⟨x,hx,hcx⟩:=h4 i k c hk hc;exact⟨x,hx,hcx.mono (λb hb=>hb) λb hb=>hne b λe=>hown.1 (e▸hb)⟩
   ·rw[hl]at hb;cases hb;exact⟨hown.1,by simpa using hown.2.1,hown.2.2⟩
   ·rw[hl]at hb;cases hb;by_cases e:id'=i
    ·exact e
    ·rw[ho' id' e]at hob';exact h.inj id' i ob' _ l hob' hl' ho rfl hb' hl
 ·by_cases e:l2=l
  ·subst e;rw[h2]at hr2;cases hr2;exact⟨_,_,hsame⟩
  ·exact⟨r2.state,r2.pending,(hne l2 e).trans hr2⟩
theorem RelAt.allocX{X:Frm}{ρ:Loc}{Im:Nat->Prop}{s:Nat->Option AV}{o:Xd}{a:Act}{w:World}(h:RelAt X ρ Im s o a w)(obj:Obj):RelAt X ρ Im s o a (w.alloc obj):=by
 exact h.upd (λ_=>False) rfl rfl rfl η (λb hb _=>Go.heap_alloc_old w obj hb) (λ_ _=>rfl) (λ_ _=>rfl) (λ_ h=>h) (λ_ _ h _=>h.elim) (λ_ _ h _=>h.elim)
theorem RelAt.mark{X:Frm}{ρ:Loc}{Im:Nat->Prop}{s:Nat->Option AV}{o:Xd}{a:Act}{w:World}(h:RelAt X ρ Im s o a w) :
  RelAt X ρ Im s o { a with defers:=[{ target:=.collected w.heap.size,args:=#[] }]++a.defers } (w.alloc (.deferred (some []))) :=
 {h.allocX (.deferred (some []))with
  defers:=by
   have h1:=(h.allocX (.deferred (some []))).defers;refine⟨λd hd=>?_,List.nodup_cons.2 ⟨λhm=>?_,h1.nd⟩⟩
   ·rcases List.mem_cons.1 hd with rfl|hd
    ·exact⟨_,rfl,heap_alloc_new w _,λhi=>Nat.lt_irrefl _ (h.imlt _ hi),h.size⟩
    ·exact h1.mark d hd
   ·obtain⟨D,e,hD,_,_⟩:=h.defers.mark _ hm;have hlt:=(Array.getElem?_eq_some_iff.1 hD).1;simp only[Deferred.mk.injEq,Target.collected.injEq,and_true]at e;omega }
def zipE:List Nat->List AV->List (Nat×AV)
 |k::ks,c::cs=>(k,c)::zipE ks cs
 |_,_=>[]
theorem lr:∀{ks:List Nat} {cs:List AV} {k:Nat} {v:AV},luS (zipE ks cs) k=some v->∃i:Nat,ks[i]? =some k/\cs[i]? =some v
 |[],_,k,v,h=>by simp[zipE,luS]at h
 |_::_,[],k,v,h=>by simp[zipE,luS]at h
 |k0::ks,c0::cs,k,v,h=>by
  simp only[zipE]at h;rw[j3]at h;split at h
  ·rename_i e;cases h;exact⟨0,by simp[e],by simp⟩
  ·obtain⟨i,h1,h2⟩:=lr h;exact⟨i+1,by simpa using h1,by simpa using h2⟩
def parE:List Nat->List AV->List (Nat×AV)->List (Nat×AV)
 |p::ps,v::vs,E=>parE ps vs ((p,v)::E)
 |_,_,E=>E
theorem uR{ρ:Loc}{Im:Nat->Prop}{H:Heap}:∀(ps:List Nat) (vs:List AV) (E:List (Nat×AV)) (tmps:Array Value) (xs:List Value),xs.length=vs.length->(∀p∈ps,p<tmps.size)->
  (∀(i:Nat) (c:AV) (x:Value),vs[i]? =some c->xs[i]? =some x->Con ρ Im H c x)->(∀k v,luS E k=some v->∃x,tmps[k]? =some x/\Con ρ Im H v x)->
  ∀k v,luS (parE ps vs E) k=some v->∃x,((ps.zip xs).foldl (λt p=>t.setIfInBounds p.1 p.2) tmps)[k]? =some x/\Con ρ Im H v x
 |[],_,E,tmps,xs,_,_,_,hE,k,v,h=>by simpa using hE k v (by simpa[parE]using h)
 |p::ps,[],E,tmps,xs,hl,_,_,hE,k,v,h=>by
  have:xs=[]:=List.eq_nil_of_length_eq_zero (by simpa using hl);subst this;simpa using hE k v (by simpa[parE]using h)
 |p::ps,u::vs,E,tmps,[],hl,_,_,_,_,_,_=>by simp at hl
 |p::ps,u::vs,E,tmps,x::xs,hl,hp,hc,hE,k,v,h=>by
  simp only[parE]at h;simp only[List.zip_cons_cons,List.foldl_cons];refine uR ps vs ((p,u)::E) (tmps.setIfInBounds p x) xs (by simpa using hl) (λq hq=>by simpa using hp q (by simp[hq])) (λi c y h1 h2=>hc (i+1) c y (by simpa using h1) (by simpa using h2)) (λk v h=>?_) k v h;rw[j3]at h;split at h
  ·rename_i e;cases h;subst e;exact⟨x,by simp[hp k η],hc 0 _ x η η⟩
  ·rename_i e;obtain⟨y,h1,h2⟩:=hE k v h;exact⟨y,by rw[Array.getElem?_setIfInBounds_ne (Ne.symm e)];exact h1,h2⟩
theorem yr:∀(ps:List Nat) (xs:List Value) (tmps:Array Value),((ps.zip xs).foldl (λt p=>t.setIfInBounds p.1 p.2) tmps).size=tmps.size
 |[],_,tmps=>rfl
 |_::_,[],tmps=>rfl
 |p::ps,x::xs,tmps=>by simp only[List.zip_cons_cons,List.foldl_cons];rw[yr ps xs];simp
theorem uS:∀(ps:List Nat) (vs:List AV) (E:List (Nat×AV)) (p:AV->Prop),(∀v∈vs,p v)->(∀k v,luS E k=some v->p v)->∀k v,luS (parE ps vs E) k=some v->p v
 |[],_,E,p,_,hE,k,v,h=>hE k v (by simpa[parE]using h)
 |_::_,[],E,p,_,hE,k,v,h=>hE k v (by simpa[parE]using h)
 |q::ps,u::vs,E,p,hv,hE,k,v,h=>by
  refine uS ps vs ((q,u)::E) p (λx hx=>hv x (by simp[hx])) (λk v h=>?_) k v (by simpa[parE]using h);rw[j3]at h;split at h
  ·cases h;exact hv _ η
  ·exact hE k v h
theorem CA(ps:Array Nat)(xs:Array Value)(tmps:Array Value):(ps.zip xs).foldl (λt (p,v)=>t.setIfInBounds p v) tmps=(ps.toList.zip xs.toList).foldl (λt p=>t.setIfInBounds p.1 p.2) tmps:=by
 rw[<-Array.foldl_toList,Array.toList_zip]
structure OutsCl(ids:List Nat)(outs:Xc):Prop where
 cl:∀p∈outs,obCl (outs.map (·.1)) p.2
 all:(ids.all λi=>(outs.map (·.1)).elem i)=true
structure RFin(pid:List Nat)(nt yid:Nat)(ks:List Nat)(ps:Array Tmp)(assign body:Code)(st:LoopState)(pe:Option Code)(b:Bool)(Q:Bool->Xc->Prop)(B:St):Prop where
 ex:∃C cs L,cb pid nt B C/\luB C.objs yid=some (.lrec .busy none ks cs ps assign body nt)/\dB C.o L/\OutsCl pid ((yid,.lrec st pe ks cs ps assign body nt)::L)/\Q b ((yid,.lrec st pe ks cs ps assign body nt)::L)
def roundE(pid:List Nat)(nt yid:Nat)(ks:List Nat)(ps:Array Tmp)(assign body:Code)(Q:Bool->Xc->Prop):Exit->St->Prop
 |.normal,B=>RFin pid nt yid ks ps assign body .ready none true Q B
 |.ret,B=>RFin pid nt yid ks ps assign body .done (some .ret) false Q B
 |.exit id,B=>RFin pid nt yid ks ps assign body .done (some (.exit id)) false Q B
 |_,_=>False
def asgE(P:Program)(pid:List Nat)(nt yid:Nat)(ks:List Nat)(ps:Array Tmp)(assign body:Code)(Q:Bool->Xc->Prop):Exit->St->Prop
 |.normal,B=>∃cs,luB B.objs yid=some (.lrec .ready none ks cs ps assign body nt)/\GoodE P pid nt body ⟨B.env,(yid,some (.lrec .busy none ks cs ps assign body nt))::B.objs⟩ (roundE pid nt yid ks ps assign body Q)
 |_,_=>False
theorem yu{yid nt:Nat}{ks:List Nat}{cs:List AV}{ps:Array Tmp}{psl:List Nat}{assign body:Code}{L:Xc}{vs:List AV}{Q:Bool->Xc->Prop}(hps:ps.toList=psl)(hpl:psl.length=vs.length)(hpn:(psl.all λp=>Nat.blt p nt)=true)
  (hcl:(L.all λp=>p.2.live)=true/\nmL ((yid::L.map (·.1))) vs=true/\nmL (yid::L.map (·.1)) cs=true/\∀p∈L,obCl (yid::L.map (·.1)) p.2)
  (h:GoodE P (yid::L.map (·.1)) nt assign ⟨parE psl vs (zipE ks cs),aS ((yid,.lrec .ready none ks cs ps assign body nt)::L)⟩ (asgE P (yid::L.map (·.1)) nt yid ks ps assign body Q)) :
  ∃b outs,Q b outs/\YSpec P yid vs ((yid,.lrec .ready none ks cs ps assign body nt)::L) b outs:=by
 obtain⟨hlive,hnv,hnc,hobc⟩:=hcl;obtain⟨ins,hins⟩:∃ins,ins=(yid,.lrec .ready none ks cs ps assign body nt)::L:=⟨_,rfl⟩;have hids:ins.map (·.1)=yid::L.map (·.1):=by rw[hins];rfl
 have hiy:luL ins yid=some (.lrec .ready none ks cs ps assign body nt):=by rw[hins,cg,if_pos rfl]
 have mem_of:∀{l:Xc} {id:Nat} {ob:LObj},luL l id=some ob->(id,ob)∈l:=by
  intro l;induction l with
  |nil=>intro id ob h;simp[luL]at h
  |cons p r ih=>
   obtain⟨k,v⟩:=p;intro id ob h;rw[cg]at h;split at h
   ·rename_i hk;cases h;simp[hk]
   ·simp[ih h]
 have hob:∀p∈ins,obCl (ins.map (·.1)) p.2:=by
  rw[hids,hins];intro p hp;rcases List.mem_cons.1 hp with rfl|hp
  ·exact hnc
  ·exact hobc p hp
 have hlv:∀id ob,luL ins id=some ob->ob.live=true:=by
  intro id ob hl;have hm:=mem_of hl;rw[hins]at hm;rcases List.mem_cons.1 hm with e|hm
  ·cases e;rfl
  ·exact(List.all_eq_true.1 hlive) _ hm
 have hlO:∀i,luB (aS ins) i=luL ins i:=by
  intro i;clear h hob hlv hiy hids hins mem_of;induction ins with
  |nil=>rfl
  |cons p r ih=>obtain⟨k,v⟩:=p;simp only[aS,luB,luL,ih]
 rw[<-hins,<-hids]at h;rw[<-hins];obtain⟨e,B,hk,hrun⟩:=h;cases e with
 |normal=>
  obtain⟨cs1,hB,e2,B2,hk2,hrun2⟩:=hk;have key:∀(st:LoopState) (pe:Option Code) (b:Bool),RFin (ins.map (·.1)) nt yid ks ps assign body st pe b Q B2->(e2=.normal/\st=.ready/\pe=none/\b=true\/e2=.ret/\st=.done/\pe=some .ret/\b=false\/∃id,e2=.exit id/\st=.done/\pe=some (.exit id)/\b=false)->
    ∃b outs,Q b outs/\YSpec P yid vs ins b outs:=by
   intro st pe b ⟨C,cs2,L2,hg,hC,hL2,hcl2,hQ⟩ hcase;refine⟨b,_,hQ,λid ob hl i hi=>bO.2 (f9 (hob _ (mem_of hl)) hi),hlv,λw ρ Im xs l hm hx hl=>?_⟩;have hoy:=hm.objs yid _ hiy;cases hoy with
   |lrec _ _ _ _ _ _ _ _ b0 r h1 h2 h3 h4=>
   rw[hl]at h1;cases h1;have hxs:xs.size=vs.length:=hx.1;have hsz:xs.size=r.params.size:=by rw[h3.ps,hxs,<-hpl,<-hps];simp
   refine⟨r.fn,_,r.assign,r.body,run_yield h2 hsz,?_⟩;rw[h3.assign,h3.body,h3.ps,CA,hps];refine roundIn_of_wpIn (F:=Fence.wide) trivial ?_;have hpt:∀p∈psl,p<r.tmps.size:=λp hp=>by rw[h3.nt];exact Nat.blt_eq.mp ((List.all_eq_true.1 hpn) p hp)
   have hrel0:Rel ⟨⟨w,some l⟩,Im,ins.map (·.1),ρ,nt⟩ (St.mk (parE psl vs (zipE ks cs)) (aS ins)).s (St.mk (parE psl vs (zipE ks cs)) (aS ins)).o { tmps:=(psl.zip xs.toList).foldl (λt p=>t.setIfInBounds p.1 p.2) r.tmps,defers:=[] } w:=by
    have eo:(St.mk (parE psl vs (zipE ks cs)) (aS ins)).o=luL ins:=funext hlO;rw[eo];exact ⟨ρ,Im,
     {objs:=hm.objs,own:=hm.own,inj:=hm.inj,ocl:=hm.ocl,imlt:=hm.imlt,im0:=hm.im0,imf:=hm.imf,os:=hm.os,tape:=hm.tape,output:=hm.output,size:=hm.size,frame:=hm.frame,pin:=hm.pin,lrc:=hm.lrc,
      rnd:=λl' hl'=>by cases hl';exact⟨r,h2⟩,defers:=DefOk.nil _ _ _,nt:=by rw[yr,h3.nt],
      slots:=uR psl vs (zipE ks cs) r.tmps xs.toList (by simpa using hxs) hpt (λi c x h5 h6=>hx.2 i c x h5 (by simpa using h6)) λk v hv=>by
       obtain⟨i,h5,h6⟩:=lr hv;exact h4 i k v h5 h6
      scl := fun k v hv i hi=>bO.2 (by
       have:=uS psl vs (zipE ks cs) (fun v=>nmV (ins.map (·.1)) v = true) (fun v hv=>by rw [hids];exact dd hnv v hv) (fun k v hv=>by
        obtain⟨i,h5,h6⟩:=lr hv;rw[hids];exact dd hnc v (List.mem_of_getElem? h6)) k v hv
       exact cC hi this) }⟩
   refine Go.wpIn_mono ((hrun ⟨w,some l⟩ Im ρ).run _ w hrel0) λe' a1 w1=>?_;rintro⟨B',⟨rfl,rfl⟩,ρ1,Im1,hr1⟩;have hp1:ρ1 yid=ρ yid:=(hr1.pin yid (by show yid∈ins.map (·.1);rw[hids];simp)).1;have hl1:(ρ1 yid).1=some l:=by rw[hp1];exact hl
   obtain⟨r1,hw1,hrk1,hset1⟩:=hr1.setRec hB hl1;have hrel1:=hset1 .busy none _ (.inr rfl);refine⟨_,run_beginRound hw1 hrk1.st,?_⟩;have hbusy:({ r1 with state:=.busy }:Loop)={ r1 with state:=.busy,pending:=none }:=by
    have:=hrk1.pe;cases r1;simp only at this;subst this;rfl
   rw[hbusy];have hrel1':Rel ⟨⟨w,some l⟩,Im,ins.map (·.1),ρ,nt⟩ (St.mk B'.env ((yid,some (.lrec .busy none ks cs1 ps assign body nt))::B'.objs)).s (St.mk B'.env ((yid,some (.lrec .busy none ks cs1 ps assign body nt))::B'.objs)).o a1 (w1.putObj l (.loop { r1 with state:=.busy,pending:=none })):=by
    refine⟨ρ1,Im1,?_⟩;have eo:(St.mk B'.env ((yid,some (.lrec .busy none ks cs1 ps assign body nt))::B'.objs)).o=luO [(yid,some (.lrec .busy none ks cs1 ps assign body nt))] B'.o:=by
     funext i;show luB _ i=_;rw[gg];rfl
    rw[eo];exact hrel1
   refine Go.wpIn_mono ((hrun2 ⟨w,some l⟩ Im ρ).run _ _ hrel1') λe' a2 w2=>?_;rintro⟨B2',⟨rfl,rfl⟩,hr2⟩;obtain⟨ρ3,Im3,hr3⟩:=(hg ⟨w,some l⟩ Im ρ).run _ _ hr2;have hl3:(ρ3 yid).1=some l:=by
    rw[(hr3.pin yid (by show yid∈ins.map (·.1);rw[hids];simp)).1];exact hl
   obtain⟨r3,hw3,hrk3,hset3⟩:=hr3.setRec hC hl3;have hrel3:=hset3 st pe _ (.inr rfl);have hout:∃ρ' Im',Ending.returned (.bool b)=.returned (.bool b)/\Mem (cB w Im ins ρ 0) ρ' Im' (luL ((yid,.lrec st pe ks cs2 ps assign body nt)::L2)) (w2.putObj l (.loop { r3 with state:=st,pending:=pe })):=by
    have ho:∀i ob,luL ((yid,.lrec st pe ks cs2 ps assign body nt)::L2) i=some ob->luO [(yid,some (.lrec st pe ks cs2 ps assign body nt))] C.o i=some ob:=by
     intro i ob h5;rw[cg]at h5;show(if i=yid then some _ else _)=_;split at h5
     ·rename_i e;rw[if_pos e];exact h5
     ·rename_i e;rw[if_neg e];exact gL hL2 i ob h5
    refine⟨ρ3,Im3,rfl,?_⟩;exact
     {objs:=fun i ob h5=>hrel3.objs i ob (ho i ob h5),own:=fun i ob b' h5=>hrel3.own i ob b' (ho i ob h5),inj:=fun i i' ob ob' b' h5 h6 h7=>hrel3.inj i i' ob ob' b' (ho i ob h5) h6 (ho i' ob' h7),
      ocl:=λi ob h5 j hj=>bO.2 (f9 (hcl2.cl _ (mem_of h5)) hj),imlt:=hrel3.imlt,im0:=hrel3.im0,imf:=hrel3.imf,os:=hrel3.os,tape:=hrel3.tape,output:=hrel3.output,size:=hrel3.size,frame:=hrel3.frame,
      pin:=fun i hi=>⟨(hrel3.pin i hi).1,bO.2 (by
       have:=(List.all_eq_true.1 hcl2.all) i hi;simpa using this)⟩,lrc:=hrel3.lrc,rnd:=λl hl=>by cases hl }
   rcases hcase with⟨rfl,rfl,rfl,rfl⟩|⟨rfl,rfl,rfl,rfl⟩|⟨id,rfl,rfl,rfl,rfl⟩
   ·exact⟨_,_,run_endRound none hw3,hout⟩
   ·exact⟨_,_,run_endRound (some .ret) hw3,hout⟩
   ·exact⟨_,_,run_endRound (some (.exit id)) hw3,hout⟩
  cases e2 with
  |normal=>exact key _ _ _ hk2 (.inl ⟨rfl,rfl,rfl,rfl⟩)
  |ret=>exact key _ _ _ hk2 (.inr (.inl ⟨rfl,rfl,rfl,rfl⟩))
  |exit id=>exact key _ _ _ hk2 (.inr (.inr ⟨id,rfl,rfl,rfl,rfl⟩))
  |_=>exact hk2.elim
 |_=>exact hk.elim
def Gn(pe:Option Code):Option Exit:=match pe with
 |none=>some .normal
 |some .ret=>some .ret
 |some (.exit id)=>some (.exit id)
 |_=>none
def CB(pe:Option Code)(K:Exit->St->Prop)(B:St):Prop:=match Gn pe with
 |some e=>K e B
 |none=>False
structure RangeK(A:St)(yid nt:Nat)(ks:List Nat)(ps:Array Tmp)(assign body:Code)(L outs:Xc)(K:Exit->St->Prop):Prop where
 ex:∃st pe cs L',outs=(yid,.lrec st pe ks cs ps assign body nt)::L'/\st≠.busy/\fk A.o L L'/\CB pe K ⟨zipE ks cs,(yid,some .dead)::(aS L'++A.objs)⟩
theorem wV(l:Xc)(O:Xb)(i:Nat):luB (aS l++O) i=luO (aS l) (luB O) i:=by
 induction l with
 |nil=>rfl
 |cons p r ih=>
  obtain⟨k,v⟩:=p;simp only[aS,List.cons_append,gg,luO,ih]
theorem oO{pid:List Nat}{nt:Nat}{A:St}{g:Operand}{ps:Array Tmp}{assign body:Code}{K:Exit->St->Prop}(yid:Nat){gf:FuncId}{caps:List AV}(hg:opdV A.s g=some (.fn gf caps))(hy:luB A.objs yid=none)
  (L:Xc) (hL:dB A.o L) (ks:List Nat) (cs:List AV) (hlen:ks.length=cs.length) (henv:∀(i k:Nat) (c:AV),ks[i]? =some k->cs[i]? =some c->luS A.env k=some c) {α:Type} {r:α->AV} {outs:α->Xc} {Q:α->Prop}
  (hspec:∃x,Q x/\CallSpec P gf (.yld yid::caps) ((yid,.lrec .ready none ks cs ps assign body nt)::L) (r x) (outs x)) (hK:∀x,Q x->RangeK A yid nt ks ps assign body L (outs x) K):LoopE P pid nt (.rangeFunc g ps assign body) A K:=by
 obtain⟨x,hQ,hs⟩:=hspec;obtain⟨st,pe,cs',L',hout,hst,hol,hj⟩:=hK x hQ;rw[hout]at hs;have go : ∀(e:Exit),Gn pe=some e->K e ⟨zipE ks cs',(yid,some .dead)::(aS L'++A.objs)⟩->LoopE P pid nt (.rangeFunc g ps assign body) A K:=by
  intro e he hKe;clear hj hout hK;refine⟨⟨e,_,hKe,λw0 Im0 ρ0=>⟨λa w hr=>?_⟩⟩⟩;obtain⟨ρ,Im,hr⟩:=hr;refine Go.wpIn_rangeFunc λfn _=>?_
  --the record is laid
  have entry:∃(l:Nat) (mark:List Deferred) (w1:World) (ρ1:Loc) (rc:Loop),(Instr.enterLoop fn a.tmps ps assign body w0.ro).run P w=.ok (l,mark) w1/\(ρ1 yid).1=some l/\w1.heap[l]? =some (.loop rc)/\rc.tmps=a.tmps/\
    (∀i,A.o i≠none->ρ1 i=ρ i)/\RelAt ⟨w0,Im0,pid,ρ0,nt⟩ ρ1 Im A.s (luO [(yid,some (.lrec .ready none ks cs ps assign body nt))] A.o) { a with defers:=mark++a.defers } w1:=by
   have lay:∀(a':Act) (w':World) (D:Nat),a'.tmps=a.tmps->RelAt ⟨w0,Im0,pid,ρ0,nt⟩ ρ Im A.s A.o a' w'->RelAt ⟨w0,Im0,pid,ρ0,nt⟩ (ρ.set yid (some w'.heap.size,0)) Im A.s (luO [(yid,some (.lrec .ready none ks cs ps assign body nt))] A.o) a' (w'.alloc (.loop { state:=.ready,pending:=none,fn,tmps:=a.tmps,params:=ps,assign,body,defers:=D })):=by
    intro a' w' D ha hr';refine hr'.new hy (.loop { state:=.ready,pending:=none,fn,tmps:=a.tmps,params:=ps,assign,body,defers:=D }) 0 _ ?_ (λi hi=>?_)
    ·refine .lrec _ _ _ _ _ _ _ _ w'.heap.size _ (by rw[Loc.set_same]) (heap_alloc_new w' _) ⟨rfl,rfl,rfl,rfl,rfl,by rw[<-ha];exact hr'.nt,hlen⟩ λi k c hk hc=>?_;obtain⟨x,hx,hcx⟩:=hr'.slots k c (henv i k c hk hc);refine⟨x,by rw[<-ha];exact hx,(hcx.mono (λb hb=>hb) λb hb=>Go.heap_alloc_old w' _ (hr'.imlt b hb)).reloc λj hj=>Loc.set_ne _ _ λe=>hr'.scl k c (henv i k c hk hc) j hj (by rw[e];exact hy)⟩
    ·cases hi with
     |lrec _ _ _ _ _ _ _ _ c hm hn=>
      obtain⟨j,hj⟩:=List.mem_iff_getElem?.1 hm;obtain⟨k,hk⟩:∃k,ks[j]? =some k:=⟨ks[j]'(by rw[hlen];exact(List.getElem?_eq_some_iff.1 hj).1),by simp⟩;exact hr'.scl k c (henv j k c hk hj) i hn
   have hne:∀i,A.o i≠none->i≠yid:=λi hi e=>hi (by rw[e];exact hy);cases hro:w0.ro with
   |none=>
    have h1:=hr.mark;refine⟨_,_,_,_,{ state:=.ready,pending:=none,fn,tmps:=a.tmps,params:=ps,assign,body,defers:=w.heap.size },run_enterLoop_outer fn a.tmps ps assign body,?_,?_,rfl,λi hi=>Loc.set_ne _ _ (hne i hi),lay _ _ _ rfl h1⟩
    ·rw[Loc.set_same];simp
    ·have:=heap_alloc_new (w.alloc (.deferred (some []))) (.loop { state:=.ready,pending:=none,fn,tmps:=a.tmps,params:=ps,assign,body,defers:=w.heap.size });simpa using this
   |some l0=>
    obtain⟨r0,hr0⟩:=hr.rnd l0 hro;obtain⟨st0,pe0,hl0⟩:=hr.lrc l0 r0 hr0;refine⟨_,_,_,_,_,run_enterLoop_inner hl0 fn a.tmps ps assign body,?_,heap_alloc_new w _,rfl,λi hi=>Loc.set_ne _ _ (hne i hi),lay _ _ _ rfl hr⟩;rw[Loc.set_same]
  obtain⟨l,mark,w1,ρ1,rc,hent,hl,hrc,htm,hρ1,hr1⟩:=entry
  --the call
  have hgc:=hr1.opd (show opdV A.s g=some (.fn gf caps)from hg);obtain⟨ys,hge,hyl,hyc⟩:∃ys,a.eval g=.func (.func gf) #[] ys/\ys.size=caps.length/\∀(i:Nat) (c:AV) (x:Value),caps[i]? =some c->ys[i]? =some x->Con ρ1 Im w1.heap c x:=by
   have hge:({ a with defers:=mark++a.defers }:Act).eval g=a.eval g:=by cases g<;>rfl
   rw[hge]at hgc;generalize a.eval g=y at hgc;cases hgc with
   |imm _ _ hi=>
    cases hi with
    |fn _ _ ys h1 h2=>exact⟨ys,rfl,h1,λi c x h3 h4=>.imm _ _ (h2 i c x h3 h4)⟩
   |fn _ _ ys h1 h2=>exact⟨ys,rfl,h1,h2⟩
  have hin1:dB (luO [(yid,some (.lrec .ready none ks cs ps assign body nt))] A.o) ((yid,.lrec .ready none ks cs ps assign body nt)::L):=by
   refine⟨by simp[luO],?_⟩;refine fE (λi hi=>?_) hL;have hne:i≠yid:=λe=>by
    have h1:∀(l:Xc),dB A.o l->i∈l.map (·.1)->A.o i≠none:=by
     intro l;induction l with
     |nil=>intro _ h;simp at h
     |cons p q ih=>
      intro h2 h3;rcases List.mem_cons.1 h3 with h4|h4
      ·rw[h4,h2.1];simp
      ·exact ih h2.2 h4
    exact h1 L hL hi (by rw[e];exact hy)
   simp[luO,hne]
  have hout1:fk (luO [(yid,some (.lrec .ready none ks cs ps assign body nt))] A.o) ((yid,.lrec .ready none ks cs ps assign body nt)::L) ((yid,.lrec st pe ks cs' ps assign body nt)::L'):=by
   refine⟨by rw[cg,if_pos rfl];trivial,?_⟩;clear hs he hKe;induction L' with
   |nil=>trivial
   |cons p q ih=>
    refine⟨?_,ih hol.2⟩;have h1:=hol.1;rw[cg];by_cases e:p.1=yid
    ·rw[if_pos e];trivial
    ·rw[if_neg e];cases h2:luL L p.1 with
     |some _=>trivial
     |none=>rw[h2]at h1;simpa[luO,e]using h1
  obtain⟨hmem,hback⟩:=hr1.callK hs.icl hs.live hin1 hout1;have hcons:Cons ρ1 Im w1.heap (.yld yid::caps) (#[.func (.yield l) #[] #[]]++ys):=by
   refine⟨by simp[hyl];omega,λi c x hci hxi=>?_⟩;cases i with
   |zero=>
    have e0:(#[Value.func (.yield l) #[] #[]]++ys)[0]? =some (.func (.yield l) #[] #[]):=by rw[Array.getElem?_append_left η];rfl
    rw[e0]at hxi;simp at hci hxi;subst hci;subst hxi;exact .yld yid l hl
   |succ i=>
    refine hyc i c x (by simpa using hci) ?_;rw[Array.getElem?_append_right η]at hxi;simpa using hxi
  have hcall:=hs.calls w1 ρ1 Im _ hmem hcons;refine⟨l,mark,w1,{ target:=.fn (.func gf) ys,args:=#[.func (.yield l) #[] #[]] },w1,gf,#[.func (.yield l) #[] #[]]++ys,w1,hent,?_,λ_ _=>trivial,?_,λe=>(by cases e),?_⟩;rotate_right;refine qd (hcall.mono λev w3=>?_);rotate_left
  ·simp only[resolve,hge];simp[go_sem]
  ·simp[invoke,go_sem,hs.enter]
  ·rintro⟨y,ρ3,Im3,rfl,_,_,hm⟩;obtain⟨ρ4,h4,_,hr4⟩:=hback w3 ρ3 Im3 hm;have hp3:ρ3 yid=ρ1 yid:=(hm.pin yid (by show yid∈List.map _ _;simp)).1;have hly:luL ((yid,LObj.lrec st pe ks cs' ps assign body nt)::L') yid=some (.lrec st pe ks cs' ps assign body nt):=by rw[cg,if_pos rfl]
   have hl4:(ρ4 yid).1=some l:=by rw[h4 yid (by rw[hly];simp),hp3];exact hl
   have ho4:luO (aS ((yid,.lrec st pe ks cs' ps assign body nt)::L')) (luO [(yid,some (.lrec .ready none ks cs ps assign body nt))] A.o) yid=some (.lrec st pe ks cs' ps assign body nt):=by
    rw[cX,hly]
   obtain⟨r4,hw4,hrk4,hset4⟩:=hr4.setRec ho4 hl4;have hrel5:=hset4 .exhausted r4.pending _ (.inl rfl);have htm4:r4.tmps=a.tmps:=by
    obtain⟨s2,p2,h5⟩:=hm.lrc l rc hrc;rw[hw4]at h5;cases h5;exact htm
   have hrel6:Rel ⟨w0,Im0,pid,ρ0,nt⟩ (St.mk (zipE ks cs') ((yid,some .dead)::(aS L'++A.objs))).s (St.mk (zipE ks cs') ((yid,some .dead)::(aS L'++A.objs))).o { a with defers:=mark++a.defers } (w3.putObj l (.loop { r4 with state:=.exhausted,pending:=r4.pending })):=by
    refine⟨ρ4,Im3,?_⟩;have eo:(St.mk (zipE ks cs') ((yid,some .dead)::(aS L'++A.objs))).o=luO [(yid,some .dead)] (luO (aS ((yid,.lrec st pe ks cs' ps assign body nt)::L')) (luO [(yid,some (.lrec .ready none ks cs ps assign body nt))] A.o)):=by
     funext i;show luB _ i=_;rw[gg];by_cases e:i=yid
     ·rw[if_pos e];simp[luO,e]
     ·rw[if_neg e,wV];simp only[luO,e,if_false,aS];have:∀(l:Xc),luO (aS l) (luB A.objs) i=luO (aS l) (λi=>if i=yid then some (.lrec .ready none ks cs ps assign body nt)else A.o i) i:=by
       intro l;rw[cX,cX,if_neg e];rfl
      exact this L'
    rw[eo];have hne:∀b,b≠l->(w3.putObj l (.loop { r4 with state:=.exhausted,pending:=r4.pending })).heap[b]? =w3.heap[b]?:=λb hb=>World.putObj_heap_other hb;have hnim:=(hr4.own yid _ l ho4 rfl hl4).1;have hobr:=hr4.objs yid _ ho4;exact { hrel5 with
     slots:=λk v hv=>by
      obtain⟨i,h5,h6⟩:=lr hv;cases hobr with
      |lrec _ _ _ _ _ _ _ _ b r2 h7 h8 h9 h10=>
      rw[hl4]at h7;cases h7;rw[hw4]at h8;cases h8;obtain⟨x,hx,hc⟩:=h10 i k v h5 h6;exact⟨x,by rw[<-htm4];exact hx,hc.mono (λb hb=>hb) λb hb=>hne b λe=>hnim (e▸hb)⟩
     scl:=λk v hv i hi=>by
      obtain⟨j,h5,h6⟩:=lr hv;have:=hr4.ocl yid _ ho4 i (.lrec _ _ _ _ _ _ _ _ v (List.mem_of_getElem? h6) hi);by_cases e:i=yid
      ·simp[luO,e]
      ·simpa[luO,e]using this }
   have hend:=run_endLoop (P:=P) hw4 (by rw[hrk4.st];exact hst);rw[show Result.ok r4.pending (w3.putObj l (.loop { r4 with state:=.exhausted }))=Result.ok pe (w3.putObj l (.loop { r4 with state:=.exhausted })) by rw[<-hrk4.pe]]at hend;refine⟨pe,w3.putObj l (.loop { r4 with state:=.exhausted }),hend,?_⟩
   ·skip;have hfin:∀e':Exit,e'=e->∃B:St,(e'=e/\B=⟨zipE ks cs',(yid,some .dead)::(aS L'++A.objs)⟩)/\Rel ⟨w0,Im0,pid,ρ0,nt⟩ B.s B.o { a with defers:=mark++a.defers } (w3.putObj l (.loop { r4 with state:=.exhausted })):=λe' h=>⟨_,⟨h,rfl⟩,hrel6⟩;cases pe with
    |none=>exact hfin .normal (Option.some.inj he)
    |some c=>
     cases c with
     |ret=>exact wpIn_ret (hfin .ret (Option.some.inj he))
     |exit id=>exact wpIn_exit (hfin (.exit id) (Option.some.inj he))
     |_=>cases he
 unfold CB at hj;split at hj
 ·rename_i e he;exact go e he hj
 ·exact hj.elim
end
mutual
theorem wW{ids ids':List Nat}(hs:∀i∈ids,i∈ids'):∀v:AV,nmV ids v=true->nmV ids' v=true
 |.fn g cs,h=>by unfold nmV at h⊢;exact nmL_sub hs cs h
 |.agg cs,h=>by unfold nmV at h⊢;exact nmL_sub hs cs h
 |.tup cs,h=>by unfold nmV at h⊢;exact nmL_sub hs cs h
 |.lptr ..,h|.osl ..,h|.osub ..,h|.optr ..,h|.mref ..,h|.yld ..,h=>by
  unfold nmV at h⊢;exact List.elem_eq_true_of_mem (hs _ (List.mem_of_elem_eq_true h))
 |.int ..,_|.bool ..,_|.str ..,_|.junk,_|.isl ..,_|.icap ..,_|.eptr ..,_|.ibox ..,_|.nils,_|.emp,_|.niface,_|.nfunc,_|.nptr,_|.nmap,_|.iface ..,_=>rfl
theorem nmL_sub{ids ids':List Nat}(hs:∀i∈ids,i∈ids'):∀l:List AV,nmL ids l=true->nmL ids' l=true
 |[],_=>rfl
 |c::cs,h=>by
  unfold nmL at h⊢;rw[Bool.and_eq_true]at h⊢;exact⟨wW hs c h.1,nmL_sub hs cs h.2⟩
end
theorem gA{ids ids':List Nat}(hs:∀i∈ids,i∈ids'){ob:LObj}(h:obCl ids ob):obCl ids' ob:=by
 cases ob with
 |box cs=>exact nmL_sub hs _ h
 |arr n sz get T=>exactλi hi=>nmL_sub hs _ (h i hi)
 |map kvs=>exactλk v hm=>⟨wW hs _ (h k v hm).1,wW hs _ (h k v hm).2⟩
 |lrec=>exact nmL_sub hs _ h
 |dead=>trivial
theorem uT{k:Nat}{v:LObj}{r:Xc}{n:Nat}:luL ((k,v)::r) n=if n=k then some v else luL r n:=by simp only[luL,aG]
theorem uU:∀{l:Xc},(l.map (·.1)).Nodup->∀p∈l,luL l p.1=some p.2
 |[],_,p,hp=>by simp at hp
 |(k,v)::r,hn,p,hp=>by
  simp only[List.map_cons,List.nodup_cons]at hn;rw[uT];rcases List.mem_cons.1 hp with rfl|hp
  ·rw[if_pos rfl]
  ·have hne:p.1≠k:=λe=>hn.1 (by rw[<-e];exact List.mem_map.2 ⟨p,hp,rfl⟩);rw[if_neg hne];exact uU hn.2 p hp
theorem sQ:∀{l:Xc} {i:Nat} {ob:LObj},luL l i=some ob->(i,ob)∈l
 |[],_,_,h=>by simp[luL]at h
 |(k,v)::r,i,ob,h=>by
  rw[uT]at h;split at h
  ·rename_i e;cases h;simp[e]
  ·simp[sQ h]
theorem dX{o:Xd}:∀{l:Xc},(∀p∈l,o p.1=some p.2)->dB o l
 |[],_=>trivial
 |(a,b)::_,h=>⟨h (a,b) η,dX λq hq=>h q (by simp[hq])⟩
theorem qY{o:Xd}{ins:Xc}:∀{l:Xc},(∀p∈l,p.1∈ins.map (·.1))->fk o ins l
 |[],_=>trivial
 | (i,b) :: _,h=>⟨by
   cases hl:luL ins i with
   |some _=>trivial
   |none=>exact absurd hl (bO.2 (h (i,b) η)),qY λq hq=>h q (by simp[hq])⟩
theorem jl(l:Xc)(i:Nat):luB (aS l) i=luL l i:=by
 have:=wV l [] i;rw[List.append_nil,cX]at this;rw[this];cases luL l i<;>rfl
theorem oP(l:Xc)(O:Xb)(i:Nat):luB (aS l++O) i=match luL l i with |some ob=>some ob|none=>luB O i:=by
 rw[wV,cX];cases luL l i<;>rfl
theorem yv{wo objs:Xb}{k:Xb->Prop}(h:k (wo++objs)):catO wo objs k:=by
 unfold catO;split<;>exact h
theorem yw{env:List (Nat×AV)}{objs:Xb}{E:Eff}{k:St->Prop}(h:k ((St.mk env objs).app E)):appK env objs E k:=by
 obtain⟨rs,ro,ws,wo⟩:=E;cases ws with
 |none=>exact yv (k:=λobjs=>k ⟨env,objs⟩) h
 |some p=>
  obtain⟨d,v⟩:=p;exact yv (k:=λobjs=>k ⟨(d,v)::env,objs⟩) h
theorem wX{pid:List Nat}{nt:Nat}{A B:St}(hs:∀k v,B.s k=some v->∃u,A.s k=some u/\AvLe u v)(ho:∀i ob,B.o i=some ob->∃ub,A.o i=some ub/\ObLe ub ob)
  (hcl:∀i ob,B.o i=some ob->∀j,NamesO j ob->B.o j≠none) (hsc:∀k v,B.s k=some v->∀j,Names j v->B.o j≠none) (hp:∀i∈pid,B.o i≠none):cb pid nt A B:=by
 intro w0 Im0 ρ0;refine⟨λa w hr=>?_⟩;obtain⟨ρ,Im,h⟩:=hr;have hlv:∀{u v:LObj},ObLe u v->v.live=true->u.live=true:=λh1 h2=>by rw[h1.live];exact h2
 refine ⟨ρ,Im,
  {objs:=fun i ob hb=>?_,own:=fun i ob b hb hl he=>?_,inj:=fun i i' ob ob' b h1 h2 h3 h4 h5 h6=>?_,ocl:=hcl,imlt:=h.imlt,im0:=h.im0,imf:=h.imf,os:=h.os,tape:=h.tape,output:=h.output,size:=h.size,frame:=h.frame,
   pin:=λi hi=>⟨(h.pin i hi).1,hp i hi⟩,lrc:=h.lrc,rnd:=h.rnd,slots:=λk v hv=>?_,scl:=hsc,defers:=h.defers,nt:=h.nt }⟩
 ·obtain⟨ub,h1,h2⟩:=ho i ob hb;exact h2.con _ _ _ _ (h.objs i ub h1)
 ·obtain⟨ub,h1,h2⟩:=ho i ob hb;exact h.own i ub b h1 (hlv h2 hl) he
 ·obtain⟨u1,k1,k2⟩:=ho i ob h1;obtain⟨u2,k3,k4⟩:=ho i' ob' h3;exact h.inj i i' u1 u2 b k1 (hlv k2 h2) k3 (hlv k4 h4) h5 h6
 ·obtain⟨u,h1,h2⟩:=hs k v hv;obtain⟨x,hx,hc⟩:=h.slots k u h1;exact⟨x,hx,h2.con _ _ _ _ hc⟩
def wY(E:List (Nat×AV))(ids:List Nat):List (Nat×AV)->Prop
 |[]=>True
 |(k,v)::r=>(nmV ids v=true/\match luS E k with |some u=>AvLe u v|none=>False)/\wY E ids r
theorem mq{E:List (Nat×AV)}{ids:List Nat}:∀{l:List (Nat×AV)},wY E ids l->∀k v,luS l k=some v->(∀i,Names i v->i∈ids)/\∃u,luS E k=some u/\AvLe u v
 |[],_,k,v,h=>by simp[luS]at h
 |(k0,v0)::r,hs,k,v,h=>by
  rw[j3]at h;split at h
  ·rename_i e;cases h;subst e;obtain⟨⟨h1,h2⟩,_⟩:=hs;refine⟨λi hi=>cC hi h1,?_⟩;cases hl:luS E k with
   |none=>rw[hl]at h2;exact h2.elim
   |some u=>rw[hl]at h2;exact⟨u,rfl,h2⟩
  ·exact mq hs.2 k v h
theorem wZ{pid:List Nat}{nt:Nat}{A:St}{env:List (Nat×AV)}{L:Xc}(hp:∀i∈pid,i∈L.map (·.1))(ho:∀p∈L,luB A.objs p.1=some p.2)(hcl:∀p∈L,obCl (L.map (·.1)) p.2)(he:wY A.env (L.map (·.1)) env):cb pid nt A ⟨env,aS L⟩:=by
 have eo:∀i,(St.mk env (aS L)).o i=luL L i:=λi=>jl L i;refine wX (λk v hv=>(mq he k v hv).2) (λi ob hi=>?_) (λi ob hi j hj=>?_) (λk v hv j hj=>?_) λi hi=>?_
 ·rw[eo]at hi;exact⟨ob,ho _ (sQ hi),q0a⟩
 ·rw[eo]at hi⊢;exact bO.2 (f9 (hcl _ (sQ hi)) hj)
 ·rw[eo];exact bO.2 ((mq he k v hv).1 j hj)
 ·rw[eo];exact bO.2 (hp i hi)
theorem oQ{pid:List Nat}{nt:Nat}{env:List (Nat×AV)}{O:Xb}{k:Nat}(h:luB O k=none):cb pid nt ⟨env,O⟩ ⟨env,(k,none)::O⟩:=λw0 Im0 ρ0=>by
 have e:(St.mk env ((k,none)::O)).o=(St.mk env O).o:=by
  funext i;show luB _ i=luB _ i;rw[gg];split
  ·rename_i e;rw[e,h]
  ·rfl
 refine⟨λa w hr=>?_⟩;rw[e];exact hr
structure Fam{σ:Type}(ids:List Nat)(O:σ->Xc):Prop where
 same:∀s,(O s).map (·.1)=ids
 nd:ids.Nodup
 live:∀s,∀p∈O s,p.2.live=true
 cl:∀s,∀p∈O s,obCl ids p.2
section
variable {σ:Type} {ids:List Nat} {O:σ->Xc}
theorem Fam.lu(h:Fam ids O)(s:σ):∀p∈O s,luL (O s) p.1=some p.2:=uU (by rw[h.same];exact h.nd)
theorem Fam.outs{τ:Type}{U:τ->Xc}(h:Fam ids O)(k:Fam ids U)(s:σ)(t:τ)(o:Xd):fk o (O s) (U t):=qY λp hp=>by
 rw[h.same,<-k.same t];exact List.mem_map.2 ⟨p,hp,rfl⟩
theorem Fam.free(h:Fam ids O)(s:σ){i:Nat}(hi:i∉ids):luL (O s) i=none:=by
 cases hl:luL (O s) i with
 |none=>rfl
 |some ob=>exact absurd (by rw[<-h.same s];exact bO.1 (by rw[hl];simp)) hi
theorem Fam.luBA(h:Fam ids O)(s:σ)(X:Xb):∀p∈O s,luB (aS (O s)++X) p.1=some p.2:=λp hp=>by
 rw[oP,h.lu s p hp]
theorem Fam.clB(h:Fam ids O)(s:σ):∀p∈O s,obCl ((O s).map (·.1)) p.2:=λp hp=>by rw[h.same];exact h.cl s p hp
theorem Fam.liveB(h:Fam ids O)(s:σ):((O s).all λp=>p.2.live)=true:=List.all_eq_true.2 λp hp=>h.live s p hp
end
end Go.Nc