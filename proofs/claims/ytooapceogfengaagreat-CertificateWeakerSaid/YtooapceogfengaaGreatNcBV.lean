/- Parts. -/
import Derived.Test.YtooapceogfengaaGreatNcBN
namespace Go.Nc
def luL:Xc->Nat->Option LObj
 |[],_=>none
 |(k,v)::r,n=>bif Nat.beq n k then some v else luL r n
def cB(w:World)(Im:Nat->Prop)(ins:Xc)(ρ:Loc)(nt:Nat):Frm:=⟨⟨w,none⟩,Im,ins.map (·.1),ρ,nt⟩
structure CallSpec(P:Program)(f:FuncId)(args:List AV)(ins:Xc)(r:AV)(outs:Xc):Prop where
 enter:∀(xs:Array Value) (w:World),(callFunc f xs).run P w=.ok (.enter f xs) w
 icl:∀id ob,luL ins id=some ob->∀i,NamesO i ob->luL ins i≠none
 live:∀id ob,luL ins id=some ob->ob.live=true
 calls:∀(w:World) (ρ:Loc) (Im:Nat->Prop) (xs:Array Value),Mem (cB w Im ins ρ 0) ρ Im (luL ins) w->Cons ρ Im w.heap args xs->
  Calls P f xs w λe w'=>∃y ρ' Im',e=.returned y/\Con ρ' Im' w'.heap r y/\(∀i,Names i r->luL outs i≠none)/\Mem (cB w Im ins ρ 0) ρ' Im' (luL outs) w'
theorem RelAt.updI{X:Frm}{ρ ρ':Loc}{Im Im':Nat->Prop}{s:Nat->Option AV}{o o':Xd}{a:Act}{w w':World}(h:RelAt X ρ Im s o a w)(D:Nat->Prop)
  (hI:∀b,Im b->Im' b) (hI2:∀b,Im' b->Im b\/w.heap.size<=b\/∃id ob,D id/\o id=some ob/\ob.live=true/\(ρ id).1=some b) (hI3:∀b,Im' b->b<w'.heap.size)
  (hos:w'.os=w.os) (htape:w'.tape=w.tape) (hout:w'.output=w.output) (hsize:w.heap.size<=w'.heap.size)
  (hblk:∀b,b<w.heap.size->(∀id ob,D id->o id=some ob->ob.live=true->(ρ id).1≠some b)->w'.heap[b]? =w.heap[b]?)
  (hρ:∀id,o id≠none->ρ' id=ρ id) (ho:∀id,¬D id->o' id=o id) (hal:∀id,o id≠none->o' id≠none)
  (hD:∀id ob,D id->o' id=some ob->Fresh X ρ' Im' o' w' id ob) (hlr:∀(l:Nat) (r:Loop),w.heap[l]? =some (.loop r)->∃st pe,w'.heap[l]? =some (.loop { r with state:=st,pending:=pe })):RelAt X ρ' Im' s o' a w':=by
 have hlt:∀{b:Nat} {x:Obj},w.heap[b]? =some x->b<w.heap.size:=λh=>(Array.getElem?_eq_some_iff.1 h).1;have him:∀b,Im b->w'.heap[b]? =w.heap[b]?:=λb hb=>hblk b (h.imlt b hb) λid ob _ hob hl he=>(h.own id ob b hob hl he).1 hb;have hself:∀id ob,¬D id->o id=some ob->ob.live=true->∀b,(ρ id).1=some b->w'.heap[b]? =w.heap[b]?:=λid ob hnd hob hl b hb=>
  hblk b (h.own id ob b hob hl hb).2.1 λid' ob' hd hob' hl' hb'=>hnd (by rw[h.inj id id' ob ob' b hob hl hob' hl' hb hb'];exact hd)
 have clean:∀id ob,¬D id->o' id=some ob->o id=some ob:=λid ob hnd hob=>by rw[<-ho id hnd];exact hob
 refine
  {objs:=fun id ob hob=>?_,own:=fun id ob b hob hl hb=>?_,inj:=fun id id' ob ob' b hob hl hob' hl' hb hb'=>?_,ocl:=fun id ob hob i hi=>?_,imlt:=hI3,im0:=fun b hb=>hI b (h.im0 b hb),
   imf:=λb hb=>?_,
   os:=hos.trans h.os,tape:=htape.trans h.tape,output:=hout.trans h.output,size:=Nat.le_trans h.size hsize,frame:=λb hb hp=>?_,pin:=λid hp=>?_,slots:=λk v hv=>?_,scl:=λk v hv i hi=>hal i (h.scl k v hv i hi),
   defers:=h.defers.mono (fun D hD=>hblk D (hlt hD) fun id ob hd hob hl he=>((h.objs id ob hob).noSys hl he).1 _ hD) (fun D hD hn hi=>by
    rcases hI2 D hi with h1|h1|⟨id,ob,_,h2,h3,h4⟩
    ·exact hn h1
    ·have:=hlt hD;omega
    ·exact((h.objs id ob h2).noSys h3 h4).1 _ hD),nt:=h.nt,
   lrc:=λl r hl=>by
    obtain⟨st,pe,h1⟩:=h.lrc l r hl;obtain⟨st2,pe2,h2⟩:=hlr l _ h1;exact⟨st2,pe2,h2⟩,
   rnd:=h.rnd }
 ·by_cases hd:D id
  ·exact(hD id ob hd hob).con
  ·have hob:=clean id ob hd hob;by_cases hl:ob.live=true
   ·exact(h.objs id ob hob).move hI him (hself id ob hd hob hl) (hρ id (by rw[hob];simp)) λi hi=>hρ i (h.ocl id ob hob i hi)
   ·cases ob with
    |dead=>exact .dead
    |_=>simp[LObj.live]at hl
 ·by_cases hd:D id
  ·exact(hD id ob hd hob).own hl b hb
  ·have hob:=clean id ob hd hob;rw[hρ id (by rw[hob];simp)]at hb;obtain⟨h1,h2,h3⟩:=h.own id ob b hob hl hb;refine⟨λhi=>?_,Nat.lt_of_lt_of_le h2 hsize,h3⟩;rcases hI2 b hi with h4|h4|⟨id',ob',h4,h5,h6,h7⟩
   ·exact h1 h4
   ·omega
   ·have:=h.inj id id' ob ob' b hob hl h5 h6 hb h7;exact hd (by rw[this];exact h4)
 ·by_cases hd:D id
  ·exact((hD id ob hd hob).inj hl b hb id' ob' hob' hl' hb').symm
  ·by_cases hd':D id'
   ·exact(hD id' ob' hd' hob').inj hl' b hb' id ob hob hl hb
   ·have hob:=clean id ob hd hob;have hob':=clean id' ob' hd' hob';rw[hρ id (by rw[hob];simp)]at hb;rw[hρ id' (by rw[hob'];simp)]at hb';exact h.inj id id' ob ob' b hob hl hob' hl' hb hb'
 ·by_cases hd:D id
  ·exact(hD id ob hd hob).names i hi
  ·exact hal i (h.ocl id ob (clean id ob hd hob) i hi)
 ·rcases hI2 b hb with hb|hb|⟨id,ob,_,h1,h2,h3⟩
  ·exact h.imf b hb
  ·exact .inr (.inl (Nat.le_trans h.size hb))
  ·rcases(h.own id ob b h1 h2 h3).2.2 with h4|h4
   ·exact .inr (.inl h4)
   ·exact .inr (.inr ⟨id,h4,by rw[<-(h.pin id h4).1];exact h3⟩)
 ·rw[hblk b (Nat.lt_of_lt_of_le hb h.size) λid ob _ hob hl he=>?_]
  ·exact h.frame b hb hp
  ·rcases(h.own id ob b hob hl he).2.2 with h1|h1
   ·omega
   ·exact hp id h1 (by rw[<-(h.pin id h1).1];exact he)
 ·obtain⟨h1,h2⟩:=h.pin id hp;exact⟨by rw[hρ id h2];exact h1,hal id h2⟩
 ·obtain⟨x,hx,hc⟩:=h.slots k v hv;exact⟨x,hx,(hc.mono hI him).reloc λi hi=>hρ i (h.scl k v hv i hi)⟩
theorem bO{l:Xc}{i:Nat}:luL l i≠none↔i∈l.map (·.1):=by
 induction l with
 |nil=>simp[luL]
 |cons p r ih=>
  obtain⟨k,v⟩:=p;simp only[luL,aG,List.map_cons,List.mem_cons];split
  ·rename_i h;simp[h]
  ·rename_i h;rw[ih];simp[h]
def dB(o:Xd):Xc->Prop
 |[]=>True
 |(id,ob)::r=>o id=some ob/\dB o r
def fk(o:Xd)(ins:Xc):Xc->Prop
 |[]=>True
 |(id,_)::r=>(match luL ins id with |some _=>True|none=>o id=none)/\fk o ins r
theorem gL{o:Xd}{ins:Xc}(h:dB o ins):∀id ob,luL ins id=some ob->o id=some ob:=by
 induction ins with
 |nil=>intro id ob h;simp[luL]at h
 |cons p r ih=>
  obtain⟨k,v⟩:=p;intro id ob hl;simp only[luL,aG]at hl;split at hl
  ·rename_i hk;subst hk;simp only[Option.some.injEq]at hl;subst hl;exact h.1
  ·exact ih h.2 id ob hl
theorem vX{o:Xd}{ins outs:Xc}(h:fk o ins outs):∀id,luL outs id≠none->luL ins id≠none\/o id=none:=by
 induction outs with
 |nil=>intro id h;simp[luL]at h
 |cons p r ih=>
  obtain⟨k,v⟩:=p;intro id hl;simp only[luL,aG]at hl;split at hl
  ·rename_i hk;subst hk;have:=h.1;cases hi:luL ins id with
   |some _=>exact .inl η
   |none=>rw[hi]at this;exact .inr this
  ·exact ih h.2 id hl
def aS(l:Xc):Xb:=match l with
 |[]=>[]
 |(i,ob)::r=>(i,some ob)::aS r
theorem cX(l:Xc)(o:Xd)(i:Nat):luO (aS l) o i=match luL l i with |some ob=>some ob|none=>o i:=by
 induction l with
 |nil=>rfl
 |cons p r ih=>
  obtain⟨k,v⟩:=p;simp only[aS,luO,luL,aG];split
  ·rfl
  ·exact ih
section
variable {P:Program} {X:Frm} {ops:Array Oper} {T:Tab}
theorem RelAt.callK{ρ:Loc}{Im:Nat->Prop}{s:Nat->Option AV}{o:Xd}{a:Act}{w:World}(hr:RelAt X ρ Im s o a w){ins outs:Xc}(icl:∀id ob,luL ins id=some ob->∀i,NamesO i ob->luL ins i≠none)
  (live:∀id ob,luL ins id=some ob->ob.live=true) (hin:dB o ins) (hout:fk o ins outs) :
  Mem (cB w Im ins ρ 0) ρ Im (luL ins) w/\∀(w':World) (ρ':Loc) (Im':Nat->Prop),Mem (cB w Im ins ρ 0) ρ' Im' (luL outs) w'->∃ρ2:Loc,(∀i,luL outs i≠none->ρ2 i=ρ' i)/\(∀i,luL outs i≠none->luO (aS outs) o i≠none)/\RelAt X ρ2 Im' s (luO (aS outs) o) a w':=by
 have hi:=gL hin;have ho:=vX hout;have hmem:Mem (cB w Im ins ρ 0) ρ Im (luL ins) w :=
  {objs:=fun id ob h=>hr.objs id ob (hi id ob h),own:=fun id ob b h hl hb=>⟨(hr.own id ob b (hi id ob h) hl hb).1,(hr.own id ob b (hi id ob h) hl hb).2.1,.inr (bO.1 (by rw[h];simp))⟩,
   inj:=λid id' ob ob' b h hl h' hl' hb hb'=>hr.inj id id' ob ob' b (hi id ob h) hl (hi id' ob' h') hl' hb hb',ocl:=icl,imlt:=hr.imlt,im0:=λb hb=>hb,imf:=λb hb=>.inl hb,
   os:=rfl,tape:=rfl,output:=rfl,size:=ξ _,frame:=λ_ _ _=>rfl,pin:=λid hp=>⟨rfl,bO.2 hp⟩,lrc:=λl r h=>⟨r.state,r.pending,h⟩,rnd:=λl h=>by cases h }
 refine⟨hmem,λw' ρ' Im' hm=>?_⟩;have hpin:∀id,luL ins id≠none->ρ' id=ρ id/\luL outs id≠none:=λid h=>hm.pin id (bO.1 h);let ρ2:Loc:=λi=>match luL outs i with |some _=>ρ' i|none=>ρ i
 have hρ2:∀i,luL outs i≠none->ρ2 i=ρ' i:=λi h=>by
  show(match luL outs i with |some _=>ρ' i|none=>ρ i)=ρ' i;cases hl:luL outs i with
  |some _=>rfl
  |none=>exact absurd hl h
 have hρ3:∀i,o i≠none->ρ2 i=ρ i:=λi h=>by
  show(match luL outs i with |some _=>ρ' i|none=>ρ i)=ρ i;cases hl:luL outs i with
  |some _=>
   rcases ho i (by rw[hl];simp)with h1|h1
   ·exact(hpin i h1).1
   ·exact absurd h1 h
  |none=>rfl
 have hal:∀i,o i≠none->luO (aS outs) o i≠none:=λi h=>by
  rw[cX];cases luL outs i<;>simp[h]
 have halo:∀i,luL outs i≠none->luO (aS outs) o i≠none:=λi h=>by
  rw[cX];cases hl:luL outs i with
  |some _=>simp
  |none=>exact absurd hl h
 have hrel : RelAt X ρ2 Im' s (luO (aS outs) o) a w':=by
  refine hr.updI (fun i=>luL outs i ≠ none) hm.im0 (fun b hb=>(hm.imf b hb).imp id (.imp id fun ⟨id,hp,he⟩=>by
   have hli:=bO.2 hp;obtain⟨ob,hob⟩:=Option.ne_none_iff_exists'.1 hli;exact⟨id,ob,(hpin id hli).2,hi id ob hob,live id ob hob,he⟩)) hm.imlt hm.os hm.tape hm.output hm.size (λb hb hne=>hm.frame b hb λid hp he=>?_) hρ3 (λi hi=>?_) hal (λi ob hi hob=>?_) hm.lrc
  ·have hli:=bO.2 hp;obtain⟨ob,hob⟩:=Option.ne_none_iff_exists'.1 hli;exact hne id ob (hpin id hli).2 (hi id ob hob) (live id ob hob) he
  ·rw[cX];simp only[ne_eq,Classical.not_not]at hi;rw[hi]
  ·rw[cX]at hob;cases hl:luL outs i with
   |none=>exact absurd hl hi
   |some ob2=>
    rw[hl]at hob;simp only[Option.some.injEq]at hob;subst hob;refine⟨(hm.objs i ob2 hl).move (λb hb=>hb) (λb hb=>rfl) (λb hb=>rfl) (hρ2 i hi) (λj hj=>hρ2 j (hm.ocl i ob2 hl j hj)),λj hj=>halo j (hm.ocl i ob2 hl j hj),λhlv b hb=>?_,λhlv b hb id' ob' hob' hl' hb'=>?_⟩
    ·rw[hρ2 i hi]at hb;obtain⟨h1,h2,h3⟩:=hm.own i ob2 b hl hlv hb;refine⟨h1,h2,?_⟩;rcases h3 with h3|h3
     ·exact .inl (Nat.le_trans hr.size h3)
     ·have hli:=bO.2 h3;obtain⟨ob,hob⟩:=Option.ne_none_iff_exists'.1 hli;exact(hr.own i ob b (gL hin i ob hob) (live i ob hob) (by rw[<-(hpin i hli).1];exact hb)).2.2
    ·rw[hρ2 i hi]at hb;rw[cX]at hob';cases hl2:luL outs id' with
     |some ob3=>
      rw[hl2]at hob';simp only[Option.some.injEq]at hob';subst hob';rw[hρ2 id' (by rw[hl2];simp)]at hb';exact hm.inj id' i _ _ b hl2 hl' hl hlv hb' hb
     |none=>
      rw[hl2]at hob';simp only at hob';rw[hρ3 id' (by rw[hob'];simp)]at hb';obtain⟨_,h2,_⟩:=hr.own id' ob' b hob' hl' hb';rcases(hm.own i ob2 b hl hlv hb).2.2 with h3|h3
      ·have:(cB w Im ins ρ 0).w0.heap.size=w.heap.size:=rfl;omega
      ·have hli:=bO.2 h3;obtain⟨ob,hob⟩:=Option.ne_none_iff_exists'.1 hli;have:=hr.inj id' i ob' ob b hob' hl' (gL hin i ob hob) (live i ob hob) hb' (by rw[<-(hpin i hli).1];exact hb);subst this;exact absurd hl2 hi
 exact⟨ρ2,hρ2,halo,hrel⟩
theorem RelAt.call{ρ:Loc}{Im:Nat->Prop}{s:Nat->Option AV}{o:Xd}{a:Act}{w:World}(hr:RelAt X ρ Im s o a w){f:FuncId}{args:List AV}{ins outs:Xc}{r:AV}(hs:CallSpec P f args ins r outs)
  (hin:dB o ins) (hout:fk o ins outs) {xs:Array Value} (hx:Cons ρ Im w.heap args xs) :
  Calls P f xs w λe w'=>∃y ρ' Im',e=.returned y/\RelAt X ρ' Im' s (luO (aS outs) o) a w'/\Con ρ' Im' w'.heap r y/\∀i,Names i r->luO (aS outs) o i≠none:=by
 obtain⟨hmem,hback⟩:=hr.callK hs.icl hs.live hin hout;refine(hs.calls w ρ Im xs hmem hx).mono λe w'=>?_;rintro⟨y,ρ',Im',rfl,hc,hn,hm⟩;obtain⟨ρ2,h1,h2,h3⟩:=hback w' ρ' Im' hm;exact⟨y,ρ2,Im',rfl,h3,hc.reloc λi hi=>h1 i (hn i hi),λi hi=>h2 i (hn i hi)⟩
structure YSpec(P:Program)(yid:Nat)(vs:List AV)(ins:Xc)(b:Bool)(outs:Xc):Prop where
 icl:∀id ob,luL ins id=some ob->∀i,NamesO i ob->luL ins i≠none
 live:∀id ob,luL ins id=some ob->ob.live=true
 yld:∀(w:World) (ρ:Loc) (Im:Nat->Prop) (xs:Array Value) (l:Nat),Mem (cB w Im ins ρ 0) ρ Im (luL ins) w->Cons ρ Im w.heap vs xs->(ρ yid).1=some l->
  ∃f tmps assign body,(Instr.yield l xs).run P w=.ok (.round l f tmps assign body) w/\RoundIn Fence.wide 0 P l f tmps assign body w λe w'=>∃ρ' Im',e=.returned (.bool b)/\Mem (cB w Im ins ρ 0) ρ' Im' (luL outs) w'
structure vYield(P:Program)(yid:Nat)(vs:List AV)(o:Xd)(k:List Nat->AV->Xb->Prop):Prop where
 ex:∃b ins outs,YSpec P yid vs ins b outs/\dB o ins/\fk o ins outs/\k (ins.map (·.1)++outs.map (·.1)) (.bool b) (aS outs)
structure vCall(P:Program)(f:FuncId)(vs:List AV)(o:Xd)(k:List Nat->AV->Xb->Prop):Prop where
 ex:∃r ins outs,CallSpec P f vs ins r outs/\dB o ins/\fk o ins outs/\k (ins.map (·.1)++outs.map (·.1)) r (aS outs)
theorem fE{o o':Xd}{ins:Xc}(ho:∀i∈ins.map (·.1),o' i=o i)(h:dB o ins):dB o' ins:=by
 induction ins with
 |nil=>trivial
 |cons p r ih=>exact⟨(ho p.1 η).trans h.1,ih (λi hi=>ho i (by simp at hi⊢;exact .inr hi)) h.2⟩
theorem fZ{o o':Xd}{ins outs:Xc}(ho:∀i∈outs.map (·.1),o' i=o i)(h:fk o ins outs):fk o' ins outs:=by
 induction outs with
 |nil=>trivial
 |cons p r ih=>
  refine⟨?_,ih (λi hi=>ho i (by simp at hi⊢;exact .inr hi)) h.2⟩;have:=h.1;cases hl:luL ins p.1 with
  |some _=>trivial
  |none=>rw[hl]at this;exact(ho p.1 η).trans this
theorem vY{op:Oper}{f:FuncId}{xs:Array Operand}{ts:Array TypeId}(ho:op.op=.call { callee:=.value (.func f),args:=xs,argTypes:=ts }){A:St}(hg:gOk ops op A.s)(hd:ca X.nt op){vs:List AV}(hv:cW A.s xs.toList=some vs)
  {k:List Nat->AV->Xb->Prop} (h:vCall P f vs A.o k):∃ro r wo,k ro r wo/\bt P X ops op A.s A.o (effV ops op (iM xs.toList) ro r wo):=by
 obtain⟨r,ins,outs,hs,hin,hout,hk⟩:=h;refine⟨_,_,_,hk,cA hg hd λs' o' hss hoo ρ Im a w hr=>?_⟩;have hv':cW s' xs.toList=some vs:=(dc hss).trans hv;have hc:=(hr.opds hv').1;have e:(xs.toList.map a.eval).toArray=xs.map a.eval:=by apply Array.ext';simp
 rw[e]at hc;have hcall:=hr.call hs (fE (λi hi=>hoo i (by simp at hi⊢;exact .inl hi)) hin) (fZ (λi hi=>hoo i (by simp at hi⊢;exact .inr hi)) hout) hc;have hex:(execOp a.eval op).run P w=.ok (.enter f (xs.map a.eval)) w:=by
  simp[execOp,ho,resolve,Act.eval,Deferred.ofValue,invoke,hs.enter]
 unfold Oper.wp;rw[hex];refine hcall.mono λe w'=>?_;rintro⟨y,ρ',Im',rfl,h1,h2,h3⟩;exact⟨y,ρ',Im',rfl,h1,h2,h3⟩
theorem tK{op:Oper}{t:Nat}{xs:Array Operand}{ts:Array TypeId}(ho:op.op=.call { callee:=.value (.tmp t),args:=xs,argTypes:=ts }){A:St}(hg:gOk ops op A.s)(hd:ca X.nt op){yid:Nat}{vs:List AV}(hf:A.s t=some (.yld yid))(hv:cW A.s xs.toList=some vs)
  {k:List Nat->AV->Xb->Prop} (h:vYield P yid vs A.o k):∃ro r wo,k ro r wo/\bt P X ops op A.s A.o (effV ops op (t::iM xs.toList) ro r wo):=by
 obtain⟨b,ins,outs,hs,hin,hout,hk⟩:=h;refine⟨_,_,_,hk,AW hg hd λs' o' hss hoo ρ Im a w hr=>?_⟩;have hv':cW s' xs.toList=some vs:=(dc λk hk=>hss k (by simp[hk])).trans hv;have hf':s' t=some (.yld yid):=(hss t η).trans hf;obtain⟨hl,hc⟩:=(hr.opds hv').1;have e:(xs.toList.map a.eval).toArray=xs.map a.eval:=by apply Array.ext';simp
 rw[e]at hl hc;obtain⟨y,hy,hcf⟩:=hr.slots t _ hf';obtain⟨l,rfl,hρ⟩:∃l,y=.func (.yield l) #[] #[]/\(ρ yid).1=some l:=by
  cases hcf with
  |imm _ _ hi=>cases hi
  |yld _ l h=>exact⟨l,rfl,h⟩
 obtain⟨hmem,hback⟩:=hr.callK hs.icl hs.live (fE (λi hi=>hoo i (by simp at hi⊢;exact .inl hi)) hin) (fZ (λi hi=>hoo i (by simp at hi⊢;exact .inr hi)) hout);obtain⟨f,tmps,assign,body,hyl,hround⟩:=hs.yld w ρ Im (xs.map a.eval) l hmem ⟨hl,hc⟩ hρ;have hev:a.eval (.tmp t)=.func (.yield l) #[] #[]:=by simp[Act.eval,hy]
 have hex:(execOp a.eval op).run P w=.ok (.round l f tmps assign body) w:=by
  simp[execOp,ho,resolve,hev,Deferred.ofValue,invoke,hyl]
 refine⟨λ_ _=>trivial,?_⟩;rw[Oper.semAt_eq _ _ _ (nA hd),hex];refine⟨λe=>(by cases e),RoundIn.mono (F:=rf X.w0.ro) (n:=0) hround λe w'=>?_⟩;rintro⟨ρ',Im',rfl,hm⟩;obtain⟨ρ2,_,_,h3⟩:=hback w' ρ' Im' hm;exact⟨.bool b,ρ2,Im',rfl,h3,.imm _ _ (.bool b),λi hi=>by cases hi⟩
end
def fork(b:Bool)(x y:Prop):Prop:=match b with
 |true=>x
 |false=>y
theorem aH{b:Bool}{x y:Prop}(h:b=true->x)(k:b=false->y):fork b x y:=by
 cases b with
 |true=>exact h rfl
 |false=>exact k rfl
theorem aa{p:Prop}[Decidable p]{x y:Prop}(h:p->x)(k:¬p->y):fork (decide p) x y:=aH (λe=>h (of_decide_eq_true e)) (λe=>k (of_decide_eq_false e))
theorem ak{p:Prop}[Decidable p]{x y:Prop}(h:¬p->x)(k:p->y):fork (!decide p) x y:=aH (λe=>h (by simpa using e)) (λe=>k (by simpa using e))
theorem Λ{p:Prop}[Decidable p]{x y:Prop}(n:p)(g:p->x):fork (decide p) x y:=aa g λh=>absurd n h
theorem Υ{p:Prop}[Decidable p]{x y:Prop}(n:¬p)(g:¬p->y):fork (decide p) x y:=aa (λh=>absurd h n) g
theorem ϑ{p:Prop}[Decidable p]{x y:Prop}(n:¬p)(g:¬p->x):fork (!decide p) x y:=ak g λh=>absurd h n
theorem ϕ{p:Prop}[Decidable p]{x y:Prop}(n:p)(g:p->y):fork (!decide p) x y:=ak (λh=>absurd n h) g
theorem ε{p:Prop}[Decidable p]{x y q:Prop}(n:¬p)(g:q)(e:q->y:=by intro q;(conv=>whnf);exact q):fork (decide p) x y:=aa (λh=>absurd h n) λ_=>e g
theorem Ω{p:Prop}[Decidable p]{x y q:Prop}(n:p)(g:q)(e:q->x:=by intro q;(conv=>whnf);exact q):fork (decide p) x y:=aa (λ_=>e g) λh=>absurd n h
theorem Δ{p:Prop}[Decidable p]{x y q:Prop}(n:p)(g:q)(e:q->y:=by intro q;(conv=>whnf);exact q):fork (!decide p) x y:=ak (λh=>absurd n h) λ_=>e g
theorem Φ{p:Prop}[Decidable p]{x y q:Prop}(n:¬p)(g:q)(e:q->x:=by intro q;(conv=>whnf);exact q):fork (!decide p) x y:=ak (λ_=>e g) λh=>absurd h n
theorem Bf{b:Bool}{x y:Prop}(hb:b=true)(h:fork b x y):x:=by subst hb;exact h
theorem z7{b:Bool}{x y:Prop}(hb:b=false)(h:fork b x y):y:=by subst hb;exact h
def gSrc(ops:Array Oper)(i:Nat):Bool:=ops.toList.any λo=>match o.guard with
 |some (j,_)=>Nat.beq j i
 |none=>false
def dOk(nt:Nat)(o:Oper):Bool:=match G5 o with
 |true=>match o.dst with
  |some d=>Nat.blt d nt
  |none=>true
 |false=>false
theorem Ei{nt:Nat}{o:Oper}(h:dOk nt o=true):ca nt o:=by
 unfold dOk at h;split at h
 ·rename_i hn;refine⟨hn,?_⟩;cases hd:o.dst with
  |none=>trivial
  |some d=>rw[hd]at h;exact h
 ·cases h
structure VInv(P:Program)(t:TypeId)(name:String)(vs:List AV)(o:Xd)(k:List Nat->AV->Xb->Prop):Prop where
 ex:∃f,(∀w,(method (P.types.size+Made.depth) t (.agg #[]) name).run P w=.ok (f,.agg #[]) w)/\vCall P f (.agg []::vs) o k
def immV:AV->Bool
 |.int _ _|.bool _|.str _=>true
 |.agg []=>true
 |_=>false
theorem Ej{v:AV}(h:immV v=true)(ρ:Loc)(Im:Nat->Prop)(H:Heap)(y:Value)(hc:Con ρ Im H v y):ConI Im H v y:=by
 unfold immV at h;split at h
 ·cases hc with |imm _ _ hi=>exact hi
 ·cases hc with |imm _ _ hi=>exact hi
 ·cases hc with |imm _ _ hi=>exact hi
 ·cases hc with
  |imm _ _ hi=>exact hi
  |agg _ ys hl _=>exact .agg [] ys hl (by intro i c x hc;simp at hc)
 ·cases h
def xB:TK->Bool
 |.other=>false
 |_=>true
section
variable (P:Program) (T:Tab) (X:Frm) (ops:Array Oper)
def vop1(i:Nat)(o:Oper)(A:St)(k:Eff->Prop):Prop:=match o.op with
 |.move x=>match opdV A.s x with
  |some v=>match gSrc ops i with
   |false=>k (effV ops o (opdS x) [] v)
   |true=>match v with
    |.bool b=>fork b (k (effV ops o (opdS x) [] (.bool true))) (k (effV ops o (opdS x) [] (.bool false)))
    |_=>False
  |none=>False
 |.assign x=>match opdV A.s x with
  |some v=>k (effV ops o (opdS x) [] v)
  |none=>False
 |.pick c x y=>match opdV A.s c with
  |some (.bool b)=>fork b
   (match opdV A.s x with
    |some v=>k (effV ops o (opdS c++opdS x++opdS y) [] v)
    |none=>False)
   (match opdV A.s y with
    |some v=>k (effV ops o (opdS c++opdS x++opdS y) [] v)
    |none=>False)
  |_=>False
 |.binOp bo t x y _=>match opdV A.s x,opdV A.s y,luT T t with
  |some u,some v,some ti=>z5 P t ti.tk bo u v λr=>k (effV ops o (opdS x++opdS y) [] r)
  |_,_,_=>False
 |.unOp uo _ x=>match opdV A.s x with
  |some v=>vUn uo v λr=>k (effV ops o (opdS x) [] r)
  |none=>False
 |.convert t t' x=>match opdV A.s x,luT T t,luT T t' with
  |some v,some ti,some ti'=>zt ti ti' v λr=>k (effV ops o (opdS x) [] r)
  |_,_,_=>False
 |.load t p=>match luT T t with
  |some ti=>zq ti A p λro v=>k (effV ops o (opdS p) ro v)
  |none=>False
 |.store t x y=>match luT T t,opdV A.s x,opdV A.s y with
  |some ti,some p,some v=>ql ti A.o p v λid ob=>k (effV ops o (opdS x++opdS y) [id] .junk [(id,some ob)])
  |_,_,_=>False
 |.fieldAddr t p f=>match luT T t,opdV A.s p with
  |some ti,some v=>qh ti f v λr=>k (effV ops o (opdS p) [] r)
  |_,_=>False
 |.nilCheck p=>match opdV A.s p with
  |some v=>lF v λr=>k (effV ops o (opdS p) [] r)
  |none=>False
 |.indexAddr t x ix=>match luT T t,opdV A.s x,opdV A.s ix with
  |some ti,some v,some vi=>qi T ti v vi λr=>k (effV ops o (opdS x++opdS ix) [] r)
  |_,_,_=>False
 |.slice t x lo hi none=>match luT T t,opdV A.s x,optV A.s lo,optV A.s hi with
  |some ti,some v,some vl,some vh=>lL T ti A.o v vl vh λro r=>k (effV ops o (opdS x++optS lo++optS hi) ro r)
  |_,_,_,_=>False
 |.slice t x none (some hi) (some mx)=>match luT T t,opdV A.s x,opdV A.s hi,opdV A.s mx with
  |some ti,some v,some vh,some vm=>match ti.tk with
   |.slice e=>ck (luT T e).isSome (lG (isCst hi) ti v vh vm λr=>k (effV ops o (opdS x++opdS hi++opdS mx) [] r))
   |_=>False
  |_,_,_,_=>False
 |.extract x j=>match opdV A.s x with
  |some v=>jy j v λr=>k (effV ops o (opdS x) [] r)
  |none=>False
 |.makeFunc (.func f) fs caps=>match fs.toList,cW A.s caps.toList with
  |[],some vs=>k (effV ops o (iM caps.toList) [] (.fn f vs))
  |_,_=>False
 |.alloc t=>match luT T t,o.dst with
  |some ti,some d=>ck (A.o d).isNone (k (effV ops o [] [d] (.lptr d 0) [(d,some (.box ti.zero))]))
  |_,_=>False
 |.box _ x=>match opdV A.s x,o.dst with
  |some v,some d=>ck (A.o d).isNone (vBox v λcs=>k (effV ops o (opdS x) [d] (.lptr d 0) [(d,some (.box cs))]))
  |_,_=>False
 |.build t parts=>match luT T t,fj A.s parts.toList with
  |some ti,some ps=>qm T ti ps λr=>k (effV ops o (mJ parts.toList) [] r)
  |_,_=>False
 |.buildSlice t len parts=>match luT T t,fj A.s parts.toList,o.dst with
  |some ti,some ps,some d=>ck (A.o d).isNone (vLit T ti len ps λob=>k (effV ops o (mJ parts.toList) [d] (.osl d len) [(d,some ob)]))
  |_,_,_=>False
 |.makeSlice t x y=>match luT T t,opdV A.s x,opdV A.s y,o.dst with
  |some ti,some v,some u,some d=>ck (A.o d).isNone (zy T ti v u λn ob=>k (effV ops o (opdS x++opdS y) [d] (.osl d n) [(d,some ob)]))
  |_,_,_,_=>False
 |.call c=>match c.callee with
  |.builtin .len=>match c.args.toList,c.argTypes.toList with
   |[x],[t]=>match luT T t,opdV A.s x with
    |some ti,some v=>vLen ti v λr=>k (effV ops o (opdS x) [] r)
    |_,_=>False
   |_,_=>False
  |.builtin .max=>match cW A.s c.args.toList with
   |some vs=>vMax true vs λr=>k (effV ops o (iM c.args.toList) [] r)
   |none=>False
  |.builtin .min=>match cW A.s c.args.toList with
   |some vs=>vMax false vs λr=>k (effV ops o (iM c.args.toList) [] r)
   |none=>False
  |.builtin .append=>match c.args.toList,c.argTypes.toList,o.dst with
   |[x,y],[t,t'],some d=>match luT T t,opdV A.s x,opdV A.s y with
    |some ti,some v,some u=>ck (Nat.beq t t'&&(A.o d).isNone) (lH T ti X.pid A.o d v u λro n wo=>k (effV ops o (opdS x++opdS y) ro (.osl d n) wo))
    |_,_,_=>False
   |_,_,_=>False
  |.builtin .clear=>match c.args.toList,c.argTypes.toList with
   |[x],[t]=>match luT T t,opdV A.s x with
    |some ti,some v=>qp T ti A.o v λid ob=>k (effV ops o (opdS x) [id] .junk [(id,some ob)])
    |_,_=>False
   |_,_=>False
  |.value (.func f)=>match cW A.s c.args.toList with
   |some vs=>vCall P f vs A.o λro r wo=>k (effV ops o (iM c.args.toList) ro r wo)
   |none=>False
  |.value (.tmp t)=>match A.s t,cW A.s c.args.toList with
   |some (.fn f caps),some vs=>vCall P f (vs++caps) A.o λro r wo=>k (effV ops o (t::iM c.args.toList) ro r wo)
   |some (.yld id),some vs=>vYield P id vs A.o λro r wo=>k (effV ops o (t::iM c.args.toList) ro r wo)
   |_,_=>False
  |.invoke x name=>match opdV A.s x,cW A.s c.args.toList with
   |some (.iface t (.agg [])),some vs=>VInv P t name vs A.o λro r wo=>k (effV ops o (opdS x++iM c.args.toList) ro r wo)
   |_,_=>False
  |_=>False
 |.makeMap _ none=>match o.dst with
  |some d=>ck (A.o d).isNone (k (effV ops o [] [d] (.mref d) [(d,some (.map []))]))
  |none=>False
 |.lookup t x y ok=>match luT T t,opdV A.s x,opdV A.s y with
  |some ti,some m,some key=>lK T ti A.o m key ok λro v=>k (effV ops o (opdS x++opdS y) ro v)
  |_,_,_=>False
 |.mapUpdate t x y z=>match luT T t,opdV A.s x,opdV A.s y,opdV A.s z with
  |some ti,some m,some key,some v=>jT T ti A.o m key v λid ob=>k (effV ops o (opdS x++opdS y++opdS z) [id] .junk [(id,some ob)])
  |_,_,_,_=>False
 |.insert t x y z=>match luT T t,opdV A.s x,opdV A.s y,opdV A.s z with
  |some ti,some m,some key,some v=>jT T ti A.o m key v λid ob=>k (effV ops o (opdS x++opdS y++opdS z) [id] .junk [(id,some ob)])
  |_,_,_,_=>False
 |.index t x y=>match luT T t,opdV A.s x,opdV A.s y with
  |some ti,some u,some v=>match ti.tk with
   |.str=>qo u v λr=>k (effV ops o (opdS x++opdS y) [] r)
   |_=>False
  |_,_,_=>False
 |.makeInterface t x=>match luT T t,opdV A.s x with
  |some ti,some v=>ck (immV v&&xB ti.tk) (k (effV ops o (opdS x) [] (.iface t v)))
  |_,_=>False
 |.field t x f=>match luT T t,opdV A.s x with
  |some ti,some v=>vFld P t ti f v λr=>k (effV ops o (opdS x) [] r)
  |_,_=>False
 |_=>False
def vopG(i : Nat)(o:Oper)(A:St)(k:Eff->Prop):Prop:=match dOk X.nt o with
 |true => match o.guard with
  |none=>vop1 P T X ops i o A k
  |some (j,want)=>match ops[j]? with
   |some p=>match p.dst with
    |some t=>match A.s t with
     |some (.bool b)=>match b==want with
      |true=>vop1 P T X ops i o A k
      |false=>k (effV ops o [] [] (.tup []))
     |some (.tup [])=>k (effV ops o [] [] (.tup []))
     |_=>False
    |none=>False
   |none=>False
 |false=>False
def catO(wo objs:Xb)(k:Xb->Prop):Prop:=match wo with
 |[]=>k objs
 |[x]=>k (x::objs)
 |[x,y]=>k (x::y::objs)
 |wo=>k (wo++objs)
def appK(env:List (Nat×AV))(objs:Xb)(E:Eff)(k:St->Prop):Prop:=match E with
 |⟨_,_,ws,wo⟩=>match ws with
  |some (d,v)=>catO wo objs λobjs=>k ⟨(d,v)::env,objs⟩
  |none=>catO wo objs λobjs=>k ⟨env,objs⟩
structure DrawOk(c k:Prop):Prop where
 left:c
 right:k
def vops:List Oper->Nat->St->(St->Prop)->Prop
 |[],_,A,K=>K A
 |o::r,i,⟨env,objs⟩,K=>vopG P T X ops i o ⟨env,objs⟩ λE=>appK env objs E λB=>vops r (i+1) B K
def jU:List Oper->Nat->St->List (Nat×Eff)->(St->Prop)->Prop
 |[],_,A,acc,K=>DrawOk (back ops=true/\e8 ops acc.reverse=true) (K A)
 |o::r,i,⟨env,objs⟩,acc,K=>vopG P T X ops i o ⟨env,objs⟩ λE=>appK env objs E λB=>jU r (i+1) B ((i,E)::acc) K
end
section
variable {P:Program} {T:Tab} {X:Frm} {ops:Array Oper}
theorem j2{α:Type}{xs:Array α}{x:α}(h:xs.toList=[x]):xs= #[x]:=by apply Array.ext';simpa using h
theorem qq{α:Type}{xs:Array α}{x y:α}(h:xs.toList=[x,y]):xs= #[x,y]:=by apply Array.ext';simpa using h
theorem z8{α:Type}{xs:Array α}(h:xs.toList=[]):xs= #[]:=by apply Array.ext';simpa using h
theorem tL{op:Oper}{t:Nat}{xs:Array Operand}{ts:Array TypeId}(ho:op.op=.call { callee:=.value (.tmp t),args:=xs,argTypes:=ts }){A:St}(hg:gOk ops op A.s)(hd:ca X.nt op){f:FuncId}{caps vs:List AV}(hf:A.s t=some (.fn f caps))(hv:cW A.s xs.toList=some vs)
  {k:List Nat->AV->Xb->Prop} (h:vCall P f (vs++caps) A.o k):∃ro r wo,k ro r wo/\bt P X ops op A.s A.o (effV ops op (t::iM xs.toList) ro r wo):=by
 obtain⟨r,ins,outs,hs,hin,hout,hk⟩:=h;refine⟨_,_,_,hk,cA hg hd λs' o' hss hoo ρ Im a w hr=>?_⟩;have hv':cW s' xs.toList=some vs:=(dc λk hk=>hss k (by simp[hk])).trans hv;have hf':s' t=some (.fn f caps):=(hss t η).trans hf;obtain⟨hl,hc⟩:=(hr.opds hv').1;have e:(xs.toList.map a.eval).toArray=xs.map a.eval:=by apply Array.ext';simp
 rw[e]at hl hc;obtain⟨y,hy,hcf⟩:=hr.slots t _ hf';have hcl:∃ys,y=.func (.func f) #[] ys/\ys.size=caps.length/\∀(i:Nat) (c:AV) (x:Value),caps[i]? =some c->ys[i]? =some x->Con ρ Im w.heap c x:=by
  cases hcf with
  |imm _ _ hi=>
   cases hi with
   |fn _ _ ys h1 h2=>exact⟨ys,rfl,h1,λi c x h3 h4=>.imm _ _ (h2 i c x h3 h4)⟩
  |fn _ _ ys h1 h2=>exact⟨ys,rfl,h1,h2⟩
 obtain⟨ys,rfl,h1,h2⟩:=hcl;have hcons:Cons ρ Im w.heap (vs++caps) (xs.map a.eval++ys):=by
  refine⟨by simp[h1]at hl⊢;omega,λi c x hci hxi=>?_⟩;by_cases hlt:i<vs.length
  ·rw[List.getElem?_append_left hlt]at hci;rw[Array.getElem?_append_left (by rw[hl];exact hlt)]at hxi;exact hc i c x hci hxi
  ·rw[List.getElem?_append_right ω]at hci;rw[Array.getElem?_append_right (by rw[hl];omega),hl]at hxi;exact h2 _ c x hci hxi
 have hcall:=hr.call hs (fE (λi hi=>hoo i (by simp at hi⊢;exact .inl hi)) hin) (fZ (λi hi=>hoo i (by simp at hi⊢;exact .inr hi)) hout) hcons;have hev:a.eval (.tmp t)=.func (.func f) #[] ys:=by simp[Act.eval,hy]
 have hex:(execOp a.eval op).run P w=.ok (.enter f (xs.map a.eval++ys)) w:=by
  simp[execOp,ho,resolve,hev,Deferred.ofValue,invoke,hs.enter]
 unfold Oper.wp;rw[hex];refine hcall.mono λe w'=>?_;rintro⟨y,ρ',Im',rfl,h1,h2,h3⟩;exact⟨y,ρ',Im',rfl,h1,h2,h3⟩
theorem z9{op:Oper}{x:Operand}{name:String}{xs:Array Operand}{ts:Array TypeId}(ho:op.op=.call { callee:=.invoke x name,args:=xs,argTypes:=ts }){A:St}(hg:gOk ops op A.s)(hd:ca X.nt op){ty:TypeId}{vs:List AV}(hf:opdV A.s x=some (.iface ty (.agg [])))(hv:cW A.s xs.toList=some vs)
  {k:List Nat->AV->Xb->Prop} (h:VInv P ty name vs A.o k):∃ro r wo,k ro r wo/\bt P X ops op A.s A.o (effV ops op (opdS x++iM xs.toList) ro r wo):=by
 obtain⟨f,hm,r,ins,outs,hs,hin,hout,hk⟩:=h;refine⟨_,_,_,hk,cA hg hd λs' o' hss hoo ρ Im a w hr=>?_⟩;have hv':cW s' xs.toList=some vs:=(dc λk hk=>hss k (by simp[hk])).trans hv;have hf':opdV s' x=some (.iface ty (.agg [])):=(az λk hk=>hss k (by simp[hk])).trans hf;obtain⟨hl,hc⟩:=(hr.opds hv').1;have e:(xs.toList.map a.eval).toArray=xs.map a.eval:=by apply Array.ext';simp
 rw[e]at hl hc;have hx:a.eval x=.iface ty (.agg #[]):=by
  have hcf:=hr.opd hf';generalize a.eval x=y at hcf;cases hcf with
  |imm _ _ hi=>
   cases hi with
   |iface _ _ z hz=>
    cases hz with
    |agg _ ys hl _=>rw[Array.eq_empty_of_size_eq_zero hl]
 have hcons:Cons ρ Im w.heap (.agg []::vs) (#[.agg #[]]++xs.map a.eval):=by
  refine⟨by simp at hl⊢;omega,λi c x hci hxi=>?_⟩;cases i with
  |zero=>
   have e0:(#[Value.agg #[]]++xs.map a.eval)[0]? =some (.agg #[]):=by rw[Array.getElem?_append_left η];rfl
   rw[e0]at hxi;simp at hci hxi;subst hci;subst hxi;exact .imm _ _ (.agg [] #[] rfl (by intro i c x hc;simp at hc))
  |succ i=>
   refine hc i c x (by simpa using hci) ?_;rw[Array.getElem?_append_right η]at hxi;simpa using hxi
 have hcall:=hr.call hs (fE (λi hi=>hoo i (by simp at hi⊢;exact .inl hi)) hin) (fZ (λi hi=>hoo i (by simp at hi⊢;exact .inr hi)) hout) hcons;have hext:(#[Value.iface ty (.agg #[])]++xs.map a.eval).extract 1 (#[Value.iface ty (.agg #[])]++xs.map a.eval).size=xs.map a.eval:=by
  apply Array.ext';simp only[Array.toList_extract,Array.toList_append,List.extract_eq_take_drop,Array.size_append,List.size_toArray,List.length_cons,List.length_nil,Array.size_map,List.cons_append,List.nil_append,List.drop_succ_cons,List.drop_zero];rw[List.take_of_length_le η]
 have hex:(execOp a.eval op).run P w=.ok (.enter f (#[.agg #[]]++xs.map a.eval)) w:=by
  have h0:(#[Value.iface ty (.agg #[])]++xs.map a.eval)[0]? =some (.iface ty (.agg #[])):=by rw[Array.getElem?_append_left η];rfl
  simp only[execOp,ho,resolve,hx,Sem.run_bind,Sem.run_pure,Result.andThen_ok,invoke,h0,hext,callMethod,run_program,hm,hs.enter]
 unfold Oper.wp;rw[hex];refine hcall.mono λe w'=>?_;rintro⟨y,ρ',Im',rfl,h1,h2,h3⟩;exact⟨y,ρ',Im',rfl,h1,h2,h3⟩
theorem qr(hT:fB P T){i:Nat}{o:Oper}{A:St}{k:Eff->Prop}(hg:gOk ops o A.s)(hd:ca X.nt o)(h:vop1 P T X ops i o A k):∃E,bt P X ops o A.s A.o E/\k E:=by
 unfold vop1 at h;split at h
 ·rename_i x ho;split at h
  ·rename_i v hv;split at h
   ·exact⟨_,jx (.inl ho) hg hd hv,h⟩
   ·split at h
    ·rename_i b;cases b with
     |true=>exact⟨_,jx (.inl ho) hg hd hv,h⟩
     |false=>exact⟨_,jx (.inl ho) hg hd hv,h⟩
    ·exact h.elim
  ·exact h.elim
 ·rename_i x ho;split at h
  ·rename_i v hv;exact⟨_,jx (.inr ho) hg hd hv,h⟩
  ·exact h.elim
 ·rename_i c x y ho;split at h
  ·rename_i b hc;cases b with
   |true=>
    simp only[fork]at h;split at h
    ·rename_i v hv;exact⟨_,qg ho hg hd hc (by simpa using hv),h⟩
    ·exact h.elim
   |false=>
    simp only[fork]at h;split at h
    ·rename_i v hv;exact⟨_,qg ho hg hd hc (by simpa using hv),h⟩
    ·exact h.elim
  ·exact h.elim
 ·rename_i bo t x y yt ho;split at h
  ·rename_i u v ti hu hv hti;obtain⟨r,hk,hn,hrun⟩:=vW (hT t ti hti) h;refine⟨_,aZ hg hd λs' hs o' ρ Im a w hr=>?_,hk⟩;have hu':opdV s' x=some u:=(az λk hk=>hs k (by simp[hk])).trans hu;have hv':opdV s' y=some v:=(az λk hk=>hs k (by simp[hk])).trans hv;obtain⟨z,hz,hc⟩:=hrun ρ Im w _ _ x y (hr.opd hu') (hr.opd hv');refine⟨⟨z,?_,.imm _ _ (hc _ _)⟩,λj hj=>absurd hj (hn j)⟩;simp only[execOp,ho];rw[Sem.run_bind,hz];rfl
  ·exact h.elim
 ·rename_i uo t x ho;split at h
  ·rename_i v hv;obtain⟨r,hk,hs⟩:=AY ho hg hd hv h;exact⟨_,hs,hk⟩
  ·exact h.elim
 ·rename_i t t' x ho;split at h
  ·rename_i v ti ti' hv hti hti';obtain⟨r,hk,hs⟩:=vQ ho hg hd (hT _ _ hti) (hT _ _ hti') hv h;exact⟨_,hs,hk⟩
  ·exact h.elim
 ·rename_i t p ho;split at h
  ·rename_i ti hti;obtain⟨ro,v,hk,hs⟩:=vO ho hg hd (hT _ _ hti) h;exact⟨_,hs,hk⟩
  ·exact h.elim
 ·rename_i t x y ho;split at h
  ·rename_i ti p v hti hp hv;obtain⟨id,ob,hk,hs⟩:=tA ho hg hd (hT _ _ hti) hp hv h;exact⟨_,hs,hk⟩
  ·exact h.elim
 ·rename_i t p f ho;split at h
  ·rename_i ti v hti hv;obtain⟨r,hk,hs⟩:=t5 ho hg hd (hT _ _ hti) hv h;exact⟨_,hs,hk⟩
  ·exact h.elim
 ·rename_i p ho;split at h
  ·rename_i v hv;obtain⟨r,hk,hs⟩:=r9 ho hg hd hv h;exact⟨_,hs,hk⟩
  ·exact h.elim
 ·rename_i t x ix ho;split at h
  ·rename_i ti v vi hti hv hvi;obtain⟨r,hk,hs⟩:=t6 hT ho hg hd (hT _ _ hti) hv hvi h;exact⟨_,hs,hk⟩
  ·exact h.elim
 ·rename_i t x lo hi ho;split at h
  ·rename_i ti v vl vh hti hv hl hh;obtain⟨ro,r,hk,hs⟩:=rH hT ho hg hd (hT _ _ hti) hv hl hh h;exact⟨_,hs,hk⟩
  ·exact h.elim
 ·rename_i t x hi mx ho;split at h
  ·rename_i ti v vh vm hti hv hh hm;split at h
   ·rename_i e hk;obtain⟨h1,h2⟩:=aY h;obtain⟨r,hk,hs⟩:=rA hT ho hg hd (hT _ _ hti) (λe' he'=>by rw[hk]at he';cases he';exact Option.isSome_iff_exists.1 h1) hv hh hm h2;exact⟨_,hs,hk⟩
   ·exact h.elim
  ·exact h.elim
 ·rename_i x j ho;split at h
  ·rename_i v hv;obtain⟨r,hk,hs⟩:=pK ho hg hd hv h;exact⟨_,hs,hk⟩
  ·exact h.elim
 ·rename_i f fs caps ho;split at h
  ·rename_i vs hfs hv;rw[z8 hfs]at ho;exact⟨_,vR ho hg hd hv,h⟩
  ·exact h.elim
 ·rename_i t ho;split at h
  ·rename_i ti d hti hdst;obtain⟨h1,h2⟩:=aY h;exact⟨_,t9 ho hg hd (Option.isNone_iff_eq_none.1 h1) (hT _ _ hti),h2⟩
  ·exact h.elim
 ·rename_i t x ho;split at h
  ·rename_i v d hv hdst;obtain⟨h1,h2⟩:=aY h;obtain⟨cs,hk,hs⟩:=zu ho hg hd (Option.isNone_iff_eq_none.1 h1) hv h2;exact⟨_,hs,hk⟩
  ·exact h.elim
 ·rename_i t parts ho;split at h
  ·rename_i ti ps hti hps;obtain⟨r,hk,hs⟩:=tB hT ho hg hd (hT _ _ hti) hps h;exact⟨_,hs,hk⟩
  ·exact h.elim
 ·rename_i t len parts ho;split at h
  ·rename_i ti ps d hti hps hdst;obtain⟨h1,h2⟩:=aY h;obtain⟨ob,hk,hs⟩:=z4 hT ho hg hd (Option.isNone_iff_eq_none.1 h1) (hT _ _ hti) hps h2;exact⟨_,hs,hk⟩
  ·exact h.elim
 ·rename_i t x y ho;split at h
  ·rename_i ti v u d hti hv hu hdst;obtain⟨h1,h2⟩:=aY h;obtain⟨n,ob,hk,hs⟩:=vU hT ho hg hd (Option.isNone_iff_eq_none.1 h1) (hT _ _ hti) hv hu h2;exact⟨_,hs,hk⟩
  ·exact h.elim
 ·rename_i c ho;obtain⟨callee,args,argTypes⟩:=c;simp only at h;split at h
  ·split at h
   ·rename_i x t hx ht;split at h
    ·rename_i ti v hti hv;rw[j2 hx,j2 ht]at ho;obtain⟨r,hk,hs⟩:=zr ho hg hd (hT _ _ hti) hv h;exact⟨_,hs,hk⟩
    ·exact h.elim
   ·exact h.elim
  ·split at h
   ·rename_i vs hv;obtain⟨r,hk,hs⟩:=qj (mx:=true) ho hg hd hv h;exact⟨_,hs,hk⟩
   ·exact h.elim
  ·split at h
   ·rename_i vs hv;obtain⟨r,hk,hs⟩:=qj (mx:=false) ho hg hd hv h;exact⟨_,hs,hk⟩
   ·exact h.elim
  ·split at h
   ·rename_i x y t t' d hx ht hdst;split at h
    ·rename_i ti v u hti hv hu;replace h:=aY h;obtain⟨hb,h⟩:=h;simp only[Bool.and_eq_true]at hb;have htt:=Nat.eq_of_beq_eq_true hb.1;subst htt;have hid:=Option.isNone_iff_eq_none.1 hb.2;rw[qq hx,qq ht]at ho;obtain⟨ro,n,wo,hk,hs⟩:=rC hT ho hg hd hid (hT _ _ hti) hv hu h;exact⟨_,hs,hk⟩
    ·exact h.elim
   ·exact h.elim
  ·split at h
   ·rename_i x t hx ht;split at h
    ·rename_i ti v hti hv;rw[j2 hx,j2 ht]at ho;obtain⟨id,ob,hk,hs⟩:=tJ hT ho hg hd (hT _ _ hti) hv h;exact⟨_,hs,hk⟩
    ·exact h.elim
   ·exact h.elim
  ·split at h
   ·rename_i vs hv;obtain⟨ro,r,wo,hk,hs⟩:=vY ho hg hd hv h;exact⟨_,hs,hk⟩
   ·exact h.elim
  ·split at h
   ·rename_i f caps vs hf hv;obtain⟨ro,r,wo,hk,hs⟩:=tL ho hg hd hf hv h;exact⟨_,hs,hk⟩
   ·rename_i yid vs hf hv;obtain⟨ro,r,wo,hk,hs⟩:=tK ho hg hd hf hv h;exact⟨_,hs,hk⟩
   ·exact h.elim
  ·split at h
   ·rename_i t vs hf hv;obtain⟨ro,r,wo,hk,hs⟩:=z9 ho hg hd hf hv h;exact⟨_,hs,hk⟩
   ·exact h.elim
  ·exact h.elim
 ·rename_i t ho;split at h
  ·rename_i d hdst;obtain⟨h1,h2⟩:=aY h;exact⟨_,pT ho hg hd (Option.isNone_iff_eq_none.1 h1),h2⟩
  ·exact h.elim
 ·rename_i t x y ok ho;split at h
  ·rename_i ti m key hti hm hk;obtain⟨ro,v,hkk,hs⟩:=rF hT ho hg hd (hT _ _ hti) hm hk h;exact⟨_,hs,hkk⟩
  ·exact h.elim
 ·rename_i t x y z ho;split at h
  ·rename_i ti m key v hti hm hk hv;obtain⟨id,ob,hkk,hs⟩:=k8 hT (.inl ho) hg hd (hT _ _ hti) hm hk hv h;exact⟨_,hs,hkk⟩
  ·exact h.elim
 ·rename_i t x y z ho;split at h
  ·rename_i ti m key v hti hm hk hv;obtain⟨id,ob,hkk,hs⟩:=k8 hT (.inr ho) hg hd (hT _ _ hti) hm hk hv h;exact⟨_,hs,hkk⟩
  ·exact h.elim
 ·rename_i t x y ho;split at h
  ·rename_i ti u v hti hu hv;split at h
   ·rename_i htk;obtain⟨r,hk,hs⟩:=tH ho hg hd (hT _ _ hti) htk hu hv h;exact⟨_,hs,hk⟩
   ·exact h.elim
  ·exact h.elim
 ·rename_i t x ho;split at h
  ·rename_i ti v hti hv;obtain⟨h1,h2⟩:=aY h;simp only[Bool.and_eq_true]at h1;refine⟨_,tI ho hg hd (hT _ _ hti) ?_ hv (Ej h1.1),h2⟩;have h3:=h1.2;unfold xB at h3;split at h3
   ·cases h3
   ·rename_i hne;split
    ·rename_i he;exact hne he
    ·trivial
  ·exact h.elim
 ·rename_i t x f ho;split at h
  ·rename_i ti v hti hv;obtain⟨r,hk,hs⟩:=z6 ho hg hd (hT _ _ hti) hv h;exact⟨_,hs,hk⟩
  ·exact h.elim
 ·exact h.elim
theorem qt(hT:fB P T){i:Nat}{o:Oper}{A:St}{k:Eff->Prop}(h:vopG P T X ops i o A k):∃E,bt P X ops o A.s A.o E/\k E:=by
 unfold vopG at h;split at h
 ·rename_i hd;have hd:=Ei hd;split at h
  ·rename_i hg;exact qr hT (by unfold gOk;rw[hg];trivial) hd h
  ·rename_i j want hg;split at h
   ·rename_i p hp;split at h
    ·rename_i t ht;split at h
     ·rename_i b hb;split at h
      ·rename_i he;have:b=want:=by simpa using he
       subst this;exact qr hT (by unfold gOk;simp only[hg,hp,ht];exact hb) hd h
      ·rename_i he;exact⟨_,qf hg hp ht (.inl ⟨hb,by simpa using he⟩) hd,h⟩
     ·rename_i hb;exact⟨_,qf (b:=true) hg hp ht (.inr hb) hd,h⟩
     ·exact h.elim
    ·exact h.elim
   ·exact h.elim
 ·exact h.elim
theorem tM{env:List (Nat×AV)}{objs:Xb}{E:Eff}{k:St->Prop}(h:appK env objs E k):∃B:St,k B/\B=(St.mk env objs).app E:=by
 have cat:∀(wo:Xb) (k:Xb->Prop),catO wo objs k->k (wo++objs):=by
  intro wo k h;unfold catO at h;split at h<;>simpa using h
 obtain⟨rs,ro,ws,wo⟩:=E;unfold appK at h;cases ws with
 |none=>exact⟨_,cat _ _ h,rfl⟩
 |some p=>obtain⟨d,v⟩:=p;exact⟨_,cat _ _ h,rfl⟩
theorem qu(hT:fB P T):∀(l:List Oper) (i:Nat) (A:St) (K:St->Prop),vops P T X ops l i A K->∃L:List (Oper×Eff),L.map (·.1)=l/\tv P X ops L A.s A.o/\∃B,K B/\B.s=finS L A.s/\B.o=finO L A.o
 |[],_,A,K,h=>⟨[],rfl,trivial,A,h,rfl,rfl⟩
 |o::r,i,⟨env,objs⟩,K,h=>by
  simp only[vops]at h;obtain⟨E,hs,hk⟩:=qt hT h;obtain⟨B0,hk,rfl⟩:=tM hk;obtain⟨L,h1,h2,B,h3,h4,h5⟩:=qu hT r (i+1) _ K hk;rw[St.app_s,St.app_o]at h2;rw[St.app_s]at h4;rw[St.app_o]at h5;exact⟨(o,E)::L,by simp[h1],⟨hs,h2⟩,B,h3,h4,h5⟩
theorem nH(hT:fB P T):∀(l:List Oper) (i:Nat) (A:St) (acc:List (Nat×Eff)) (K:St->Prop),jU P T X ops l i A acc K->
  ∃L:List (Nat×Oper×Eff),L.map (·.2.1)=l/\L.map (·.1)=List.range' i l.length/\tv P X ops (L.map (·.2)) A.s A.o/\back ops=true/\e8 ops (acc.reverse++L.map λp=>(p.1,p.2.2))=true/\
   ∃B,K B/\B.s=finS (L.map (·.2)) A.s/\B.o=finO (L.map (·.2)) A.o
 |[],i,A,acc,K,h=>⟨[],rfl,rfl,trivial,h.1.1,by simpa using h.1.2,A,h.2,rfl,rfl⟩
 |o::r,i,⟨env,objs⟩,acc,K,h=>by
  simp only[jU]at h;obtain⟨E,hs,hk⟩:=qt hT h;obtain⟨B0,hk,rfl⟩:=tM hk;obtain⟨L,h1,h1',h2,hb,hp,B,h3,h4,h5⟩:=nH hT r (i+1) _ _ K hk;rw[St.app_s,St.app_o]at h2;rw[St.app_s]at h4;rw[St.app_o]at h5;exact⟨(i,o,E)::L,by simp[h1],by simp[h1',List.range'_succ],⟨hs,h2⟩,hb,by simpa using hp,B,h3,h4,h5⟩
structure GoodS(P:Program)(X:Frm)(c:Code)(A:St)(K:Exit->St->Prop):Prop where
 run:∀a w,Rel X A.s A.o a w->c.wpIn (rf X.w0.ro) 0 P (λe a' w'=>∃B:St,K e B/\Rel X B.s B.o a' w') a w
theorem GoodS.mono{c:Code}{A:St}{K K':Exit->St->Prop}(h:GoodS P X c A K)(hk:∀e B,K e B->K' e B):GoodS P X c A K' :=
 ⟨λa w hr=>Go.wpIn_mono (h.run a w hr) λ_ _ _ ⟨B,h1,h2⟩=>⟨B,hk _ _ h1,h2⟩⟩
theorem Rel.drew{s:Nat->Option AV}{o:Xd}{a:Act}{w:World}(h:Rel X s o a w):Rel X s o a { w with drawn:=w.drawn+1 }:=by
 obtain⟨ρ,Im,h⟩:=h;exact⟨ρ,Im,{ objs:=h.objs,own:=h.own,inj:=h.inj,ocl:=h.ocl,imlt:=h.imlt,im0:=h.im0,imf:=h.imf,os:=h.os,tape:=h.tape,output:=h.output,size:=h.size,frame:=h.frame,pin:=h.pin,lrc:=h.lrc,rnd:=h.rnd,slots:=h.slots,scl:=h.scl,defers:=h.defers,nt:=h.nt }⟩
def xC(id:Nat)(K:Exit->St->Prop):Exit->St->Prop
 |.exit i,B=>match Nat.beq i id with
  |true=>K .normal B
  |false=>K (.exit i) B
 |e,B=>K e B
def seqK(P:Program)(X:Frm)(b:Code)(K:Exit->St->Prop):Exit->St->Prop
 |.normal,B=>GoodS P X b B K
 |e,B=>K e B
structure LoopG(P:Program)(X:Frm)(c:Code)(A:St)(K:Exit->St->Prop):Prop where
 good:GoodS P X c A K
def vc(P:Program)(T:Tab)(X:Frm):Code->St->(Exit->St->Prop)->Prop
 |.skip,A,K=>K .normal A
 |.region _ ops false,A,K=>vops P T X ops ops.toList 0 A (K .normal)
 |.region _ ops true,A,K=>jU P T X ops ops.toList 0 A [] (K .normal)
 |.seq a b,A,K=>vc P T X a A (seqK P X b K)
 |.cond c x y,A,K=>match opdV A.s c with
  |some (.bool b)=>fork b (GoodS P X x A K) (GoodS P X y A K)
  |_=>False
 |.block id c,A,K=>vc P T X c A (xC id K)
 |.exit id,A,K=>K (.exit id) A
 |.ret,A,K=>K .ret A
 |c,A,K=>LoopG P X c A K
theorem vZ(hm:P.follows .mixedOrders=true)(hT:fB P T){c:Code}{A:St}{K:Exit->St->Prop}(h:vc P T X c A K):GoodS P X c A K:=by
 induction c generalizing A K with
 |skip=>exact⟨λa w hr=>wpIn_skip ⟨A,h,hr⟩⟩
 |region id ops draw=>
  cases draw with
  |false=>
   refine⟨λa w hr=>?_⟩;obtain⟨L,h1,h2,B,h3,h4,h5⟩:=qu hT _ _ _ _ h;refine wpIn_region ?_;have hlen:L.length=ops.size:=by
    have:=congrArg List.length h1;simpa using this
   have:=gC (P:=P) (Q:=fun e a' w'=>∃ B:St,K e B/\Rel X B.s B.o a' w') L 0 A.s A.o a w (fun j=>by
    have:=congrArg (λl=>l[j]?) h1;simpa using this) h2 hr (λa' w' hr'=>⟨B,h3,by rw[h4,h5];exact hr'⟩)
   rw[hlen,<-List.range_eq_range']at this;exact this
  |true=>
   refine⟨λa w hr=>?_⟩;obtain⟨L,h1,h1',h2,hb,hp,B,h3,h4,h5⟩:=nH hT _ _ _ _ _ h;refine wpIn_region_any hm ?_;have hlen:L.length=ops.size:=by
    have:=congrArg List.length h1;simpa using this
   have hidx:∀j (hj:j<L.length),(L[j]).1=j:=by
    intro j hj;have:=congrArg (λl=>l[j]?) h1';simp[hj]at this;have h2:=this;rw[β (by simp;omega)]at h2;simpa using h2
   have hop:∀j (hj:j<L.length),ops[j]? =some (L[j]).2.1:=by
    intro j hj;have:=congrArg (λl=>l[j]?) h1;simp[hj]at this;exact this.symm
   refine pJ hb ops.size L (Array.replicate ops.size false) A.s A.o a _ hlen η ⟨λp hpm=>?_,λk o hk=>?_,?_,?_⟩ (λj o _ hl=>?_) (by simpa using hp) h2 hr.drew (λa' w' hr'=>⟨B,h3,by rw[h4,h5];exact hr'⟩)
   ·obtain⟨j,hj,rfl⟩:=List.mem_iff_getElem.1 hpm;rw[hidx j hj];exact hop j hj
   ·have hk':=(Array.getElem?_eq_some_iff.1 hk).1;rw[h1'];simp[hk']
   ·rw[h1'];exact List.nodup_range'
   ·rw[h1'];exact List.pairwise_lt_range'
   ·simp only[Array.getD_eq_getD_getElem?,Array.getElem?_replicate]at hl;split at hl<;>simp at hl
 |seq x y ihx _=>
  refine⟨λa w hr=>?_⟩;refine wpIn_seq (Go.wpIn_mono ((ihx h).run a w hr) λe a' w'=>?_);rintro⟨B,h1,h2⟩;cases e with
  |normal=>exact h1.run a' w' h2
  |_=>exact⟨B,h1,h2⟩
 |cond c x y _ _=>
  simp only[vc]at h;split at h
  ·rename_i b hc;refine⟨λa w hr=>?_⟩;obtain⟨ρ,Im,hr'⟩:=hr;have e:=(hr'.opd hc).bool_inv;exact wpIn_cond_split e (λht=>(Bf ht h).run a w ⟨ρ,Im,hr'⟩) (λhf=>(z7 hf h).run a w ⟨ρ,Im,hr'⟩)
  ·exact h.elim
 |block id c ih=>
  refine⟨λa w hr=>?_⟩;refine wpIn_block (Go.wpIn_mono ((ih h).run a w hr) λe a' w'=>?_);rintro⟨B,h1,h2⟩;cases e with
  |exit i=>
   simp only[xC]at h1;simp only[Exit.inBlock];split at h1
   ·rename_i hb;rw[if_pos (Nat.eq_of_beq_eq_true hb)];exact⟨B,h1,h2⟩
   ·rename_i hb;rw[if_neg (λe=>by rw[e,Nat.beq_refl]at hb;cases hb)];exact⟨B,h1,h2⟩
  |_=>exact⟨B,h1,h2⟩
 |exit id=>exact⟨λa w hr=>wpIn_exit ⟨A,h,hr⟩⟩
 |ret=>exact⟨λa w hr=>wpIn_ret ⟨A,h,hr⟩⟩
 |_=>exact h.good
end
end Go.Nc