/- Parts. -/
import Derived.Test.YtooapceogfengaaGreatNcBB
import Derived.Laws.OwnMore
namespace Go.Nc
theorem ObjCon.move{ρ ρ':Loc}{Im Im':Nat->Prop}{H H':Heap}{id:Nat}{ob:LObj}(h:ObjCon ρ Im H id ob)(hI:∀b,Im b->Im' b)(hH:∀b,Im b->H'[b]? =H[b]?)
  (hb:∀b,(ρ id).1=some b->H'[b]? =H[b]?) (hid:ρ' id=ρ id) (hρ:∀i,NamesO i ob->ρ' i=ρ i):ObjCon ρ' Im' H' id ob:=by
 have cm:∀{c:AV} {x:Value},Con ρ Im H c x->(∀i,Names i c->ρ' i=ρ i)->Con ρ' Im' H' c x:=λhc hn=>(hc.mono hI hH).reloc hn;cases h with
 |dead=>exact .dead
 |box cells b xs T h1 h2 h3=>exact .box cells b xs T (by rw[hid];exact h1) ((hb b h1).trans h2) ⟨h3.1,λi c x hc hx=>cm (h3.2 i c x hc hx) λj hj=>hρ j (.box _ c (List.mem_of_getElem? hc) hj)⟩
 |arr0 sz get T h1=>exact .arr0 sz get T (by rw[hid];exact h1)
 |arr n sz get T b xs h1 h2 h3 h4 h5 h6 h7 h8=>
  exact .arr n sz get T b xs (by rw[hid];exact h1) ((hb b h1).trans h2) (by rw[hid];exact h3) (by rw[hid];exact h4) (by rw[hid];exact h5) h6 h7
   λi j c x hi hc hx=>cm (h8 i j c x hi hc hx) λk hk=>hρ k (.arr _ _ _ _ i c hi (List.mem_of_getElem? hc) hk)
 |map kvs b es clock h1 h2 h3 h4=>
  exact .map kvs b es clock (by rw[hid];exact h1) ((hb b h1).trans h2) h3 λi k v e hk he=>
   ⟨cm (h4 i k v e hk he).1 λj hj=>hρ j (.mapK _ k v (List.mem_of_getElem? hk) hj),cm (h4 i k v e hk he).2 λj hj=>hρ j (.mapV _ k v (List.mem_of_getElem? hk) hj)⟩
 |lrec st pe ks cs ps assign body nt b r h1 h2 h3 h4=>
  exact .lrec st pe ks cs ps assign body nt b r (by rw[hid];exact h1) ((hb b h1).trans h2) h3 λi k c hk hc=>
   let⟨x,hx,hcx⟩:=h4 i k c hk hc;⟨x,hx,cm hcx λj hj=>hρ j (.lrec _ _ _ _ _ _ _ _ c (List.mem_of_getElem? hc) hj)⟩
theorem ObjCon.noSys{ρ:Loc}{Im:Nat->Prop}{H:Heap}{id:Nat}{ob:LObj}(h:ObjCon ρ Im H id ob)(hl:ob.live=true){b:Nat}(hb:(ρ id).1=some b) :
  (∀ds,H[b]? ≠some (.deferred ds))/\(ob.isRec=false->∀r,H[b]? ≠some (.loop r)):=by
 cases h with
 |dead=>cases hl
 |box _ b2 _ _ h1 h2=>rw[hb]at h1;cases h1;rw[h2];exact⟨λ_ e=>(by cases e),λ_ _ e=>(by cases e)⟩
 |arr0 _ _ _ h1=>rw[h1]at hb;cases hb
 |arr _ _ _ _ b2 _ h1 h2=>rw[hb]at h1;cases h1;rw[h2];exact⟨λ_ e=>(by cases e),λ_ _ e=>(by cases e)⟩
 |map _ b2 _ _ h1 h2=>rw[hb]at h1;cases h1;rw[h2];exact⟨λ_ e=>(by cases e),λ_ _ e=>(by cases e)⟩
 |lrec _ _ _ _ _ _ _ _ b2 r h1 h2=>rw[hb]at h1;cases h1;rw[h2];exact⟨λ_ e=>(by cases e),λe=>(by cases e)⟩
structure Fresh(X:Frm)(ρ':Loc)(Im:Nat->Prop)(o':Xd)(w':World)(id:Nat)(ob:LObj):Prop where
 con:ObjCon ρ' Im w'.heap id ob
 names:∀i,NamesO i ob->o' i≠none
 own:ob.live=true->∀b,(ρ' id).1=some b->¬Im b/\b<w'.heap.size/\(X.w0.heap.size<=b\/id∈X.pid)
 inj:ob.live=true->∀b,(ρ' id).1=some b->∀id' ob',o' id'=some ob'->ob'.live=true->(ρ' id').1=some b->id'=id
theorem RelAt.upd{X:Frm}{ρ ρ':Loc}{Im:Nat->Prop}{s:Nat->Option AV}{o o':Xd}{a:Act}{w w':World}(h:RelAt X ρ Im s o a w)(D:Nat->Prop)
  (hos:w'.os=w.os) (htape:w'.tape=w.tape) (hout:w'.output=w.output) (hsize:w.heap.size<=w'.heap.size)
  (hblk:∀b,b<w.heap.size->(∀id ob,D id->o id=some ob->ob.live=true->(ρ id).1≠some b)->w'.heap[b]? =w.heap[b]?)
  (hρ:∀id,o id≠none->ρ' id=ρ id) (ho:∀id,¬D id->o' id=o id) (hal:∀id,o id≠none->o' id≠none)
  (hD:∀id ob,D id->o' id=some ob->Fresh X ρ' Im o' w' id ob) (hrec:∀id ob,D id->o id=some ob->ob.isRec=false):RelAt X ρ' Im s o' a w':=by
 have hlt:∀{b:Nat} {x:Obj},w.heap[b]? =some x->b<w.heap.size:=λh=>(Array.getElem?_eq_some_iff.1 h).1;have him:∀b,Im b->w'.heap[b]? =w.heap[b]?:=λb hb=>hblk b (h.imlt b hb) λid ob _ hob hl he=>(h.own id ob b hob hl he).1 hb;have hself:∀id ob,¬D id->o id=some ob->ob.live=true->∀b,(ρ id).1=some b->w'.heap[b]? =w.heap[b]?:=λid ob hnd hob hl b hb=>
  hblk b (h.own id ob b hob hl hb).2.1 λid' ob' hd hob' hl' hb'=>hnd (by rw[h.inj id id' ob ob' b hob hl hob' hl' hb hb'];exact hd)
 have clean:∀id ob,¬D id->o' id=some ob->o id=some ob:=λid ob hnd hob=>by rw[<-ho id hnd];exact hob
 refine
  {objs:=fun id ob hob=>?_,own:=fun id ob b hob hl hb=>?_,inj:=fun id id' ob ob' b hob hl hob' hl' hb hb'=>?_,ocl:=fun id ob hob i hi=>?_,imlt:=fun b hb=>Nat.lt_of_lt_of_le (h.imlt b hb) hsize,im0:=h.im0,imf:=h.imf,
   os:=hos.trans h.os,tape:=htape.trans h.tape,output:=hout.trans h.output,size:=Nat.le_trans h.size hsize,frame:=λb hb hp=>?_,pin:=λid hp=>?_,slots:=λk v hv=>?_,scl:=λk v hv i hi=>hal i (h.scl k v hv i hi),
   defers:=h.defers.mono (λD hD=>hblk D (hlt hD) λid ob hd hob hl he=>((h.objs id ob hob).noSys hl he).1 _ hD) (λ_ _ h=>h),nt:=h.nt,
   lrc:=λl r hl=>by
    obtain⟨st,pe,h1⟩:=h.lrc l r hl;exact⟨st,pe,(hblk l (hlt h1) λid ob hd hob hl he=>((h.objs id ob hob).noSys hl he).2 (hrec id ob hd hob) _ h1).trans h1⟩,
   rnd:=h.rnd }
 ·by_cases hd:D id
  ·exact(hD id ob hd hob).con
  ·have hob:=clean id ob hd hob;by_cases hl:ob.live=true
   ·exact(h.objs id ob hob).move (λb hb=>hb) him (hself id ob hd hob hl) (hρ id (by rw[hob];simp)) λi hi=>hρ i (h.ocl id ob hob i hi)
   ·cases ob with
    |dead=>exact .dead
    |_=>simp[LObj.live]at hl
 ·by_cases hd:D id
  ·exact(hD id ob hd hob).own hl b hb
  ·have hob:=clean id ob hd hob;rw[hρ id (by rw[hob];simp)]at hb;obtain⟨h1,h2,h3⟩:=h.own id ob b hob hl hb;exact⟨h1,Nat.lt_of_lt_of_le h2 hsize,h3⟩
 ·by_cases hd:D id
  ·exact((hD id ob hd hob).inj hl b hb id' ob' hob' hl' hb').symm
  ·by_cases hd':D id'
   ·exact(hD id' ob' hd' hob').inj hl' b hb' id ob hob hl hb
   ·have hob:=clean id ob hd hob;have hob':=clean id' ob' hd' hob';rw[hρ id (by rw[hob];simp)]at hb;rw[hρ id' (by rw[hob'];simp)]at hb';exact h.inj id id' ob ob' b hob hl hob' hl' hb hb'
 ·by_cases hd:D id
  ·exact(hD id ob hd hob).names i hi
  ·exact hal i (h.ocl id ob (clean id ob hd hob) i hi)
 ·rw[hblk b (Nat.lt_of_lt_of_le hb h.size) λid ob _ hob hl he=>?_]
  ·exact h.frame b hb hp
  ·rcases(h.own id ob b hob hl he).2.2 with h1|h1
   ·omega
   ·exact hp id h1 (by rw[<-(h.pin id h1).1];exact he)
 ·obtain⟨h1,h2⟩:=h.pin id hp;exact⟨by rw[hρ id h2];exact h1,hal id h2⟩
 ·obtain⟨x,hx,hc⟩:=h.slots k v hv;exact⟨x,hx,(hc.mono (λb hb=>hb) him).reloc λi hi=>hρ i (h.scl k v hv i hi)⟩
def Loc.set(ρ:Loc)(id:Nat)(p:Option Nat×Nat):Loc:=λi=>if i=id then p else ρ i
theorem Loc.set_same(ρ:Loc)(id:Nat)(p:Option Nat×Nat):ρ.set id p id=p:=by simp[Loc.set]
theorem Loc.set_ne(ρ:Loc){id i:Nat}(p:Option Nat×Nat)(h:i≠id):ρ.set id p i=ρ i:=by simp[Loc.set,h]
section
variable {P:Program} {X:Frm} {ops:Array Oper} {T:Tab}
theorem RelAt.new{ρ:Loc}{Im:Nat->Prop}{s:Nat->Option AV}{o:Xd}{a:Act}{w:World}(h:RelAt X ρ Im s o a w){id:Nat}(hid:o id=none)(obj:Obj)(cap:Nat)(ob:LObj)
  (hcon:ObjCon (ρ.set id (some w.heap.size,cap)) Im (w.alloc obj).heap id ob) (hn:∀i,NamesO i ob->o i≠none) :
  RelAt X (ρ.set id (some w.heap.size,cap)) Im s (luO [(id,some ob)] o) a (w.alloc obj):=by
 have ho':∀i,i≠id->luO [(id,some ob)] o i=o i:=λi hi=>by simp[luO,hi]
 refine h.upd (λi=>i=id) rfl rfl rfl η (λb hb _=>heap_alloc_old w obj b hb) (λi hi=>Loc.set_ne _ _ (λe=>hi (by rw[e];exact hid))) (λi hi=>ho' i hi)
  (λi hi=>by rw[ho' i (λe=>hi (by rw[e];exact hid))];exact hi) (λi ob' hi hob'=>?_) (λi ob hi hob=>by rw[hi,hid]at hob;cases hob)
 subst hi;have:ob'=ob:=by simp[luO]at hob';exact hob'.symm
 subst this;refine⟨hcon,λj hj=>?_,λ_ b hb=>?_,λ_ b hb id' ob2 hob2 hl2 hb2=>?_⟩
 ·rw[ho' j (λe=>hn j hj (by rw[e];exact hid))];exact hn j hj
 ·rw[Loc.set_same]at hb;simp only[Option.some.injEq]at hb;subst hb;exact⟨λhi=>by have:=h.imlt _ hi;omega,by simp,.inl h.size⟩
 ·rw[Loc.set_same]at hb;simp only[Option.some.injEq]at hb;subst hb;by_cases he:id'=i
  ·exact he
  ·rw[ho' id' he]at hob2;rw[Loc.set_ne _ _ he]at hb2;have:=(h.own id' ob2 _ hob2 hl2 hb2).2.1;omega
theorem t8{op:Oper}{d:Nat}{A:St}(hg:gOk ops op A.s)(hd:ca X.nt op)(hid:A.o d=none){rs:List Nat}{cells:List AV}
  (h:∀s',(∀k∈rs,s' k=A.s k)->∀(o':Xd) ρ Im a w,RelAt X ρ Im s' o' a w->
   (∃xs T,(execOp a.eval op).run P w=.ok (.value (.pointer (some ⟨w.heap.size,0,none⟩))) (w.alloc (.cells xs T))/\Cons ρ Im w.heap cells xs)/\∀c∈cells,∀i,Names i c->o' i≠none) :
  bt P X ops op A.s A.o (effV ops op rs [d] (.lptr d 0) [(d,some (.box cells))]):=by
 refine cA hg hd λs' o' hs ho ρ Im a w hr=>?_;obtain⟨⟨xs,T,hrun,hl,hc⟩,hn⟩:=h s' hs o' ρ Im a w hr;have hid':o' d=none:=(ho d η).trans hid;have hloc:∀c∈cells,∀i,Names i c->(ρ.set d (some w.heap.size,0)) i=ρ i:=λc hm i hi=>Loc.set_ne _ _ λe=>hn c hm i hi (by rw[e];exact hid');unfold Oper.wp;rw[hrun];refine⟨_,ρ.set d (some w.heap.size,0),Im,rfl,hr.new hid' (.cells xs T) 0 (.box cells) ?_ (λi hi=>?_),.lptr d 0 _ (by rw[Loc.set_same]),λi hi=>?_⟩
 ·refine .box cells w.heap.size xs T (by rw[Loc.set_same]) (heap_alloc_new w _) ⟨hl,λi c x h1 h2=>?_⟩;exact((hc i c x h1 h2).mono (λb hb=>hb) λb hb=>heap_alloc_old w _ b (hr.imlt b hb)).reloc λj hj=>hloc c (List.mem_of_getElem? h1) j hj
 ·cases hi with
  |box _ c hm hi=>exact hn c hm i hi
 ·cases hi;simp[luO]
def AV.cellsL:AV->List AV
 |.agg cs=>cs
 |v=>[v]
theorem iN{ρ:Loc}{Im:Nat->Prop}{H:Heap}{v:AV}{x:Value}(h:Con ρ Im H v x)(hj:v≠.junk):Cons ρ Im H v.cellsL x.cells:=by
 by_cases hv:∃cs,v=.agg cs
 ·obtain⟨cs,rfl⟩:=hv;obtain⟨xs,rfl,hc⟩:=h.agg_inv;exact hc
 ·have h1:v.cellsL=[v]:=by cases v<;>first|rfl|exact absurd ⟨_,rfl⟩ hv
  have h2:x.cells= #[x]:=by
   cases h with
   |imm _ _ hi=>cases hi<;>first|rfl|exact absurd rfl hj|exact absurd ⟨_,rfl⟩ hv
   |agg cs=>exact absurd ⟨_,rfl⟩ hv
   |_=>rfl
  rw[h1,h2];exact ⟨rfl,fun i c y hc hy=>by
   cases i with
   |zero=>simp at hc hy;subst hc;subst hy;exact h
   |succ i=>simp at hc⟩
def vBox(v:AV)(k:List AV->Prop):Prop:=match v with
 |.junk=>False
 |v=>k v.cellsL
theorem AZ{v:AV}{k:List AV->Prop}(h:vBox v k):v≠.junk/\k v.cellsL:=by
 cases v<;>first|exact h.elim|exact⟨by simp,h⟩
theorem zu{op:Oper}{t:Nat}{x:Operand}(ho:op.op=.box t x){d:Nat}{A:St}(hg:gOk ops op A.s)(hd:ca X.nt op)(hid:A.o d=none){v:AV}(hv:opdV A.s x=some v){k:List AV->Prop}(h:vBox v k) :
  ∃cells,k cells/\bt P X ops op A.s A.o (effV ops op (opdS x) [d] (.lptr d 0) [(d,some (.box cells))]):=by
 obtain⟨hj,hk⟩:=AZ h;refine⟨_,hk,t8 hg hd hid λs' hs o' ρ Im a w hr=>?_⟩;have hv':opdV s' x=some v:=(az hs).trans hv;refine⟨⟨(a.eval x).cells,t,?_,iN (hr.opd hv') hj⟩,λc hm i hi=>?_⟩
 ·simp[execOp,ho,Instr.box,newVar,newRow]
 ·refine hr.opdN hv' ?_;unfold AV.cellsL at hm;split at hm
  ·exact .agg _ c hm hi
  ·simp at hm;subst hm;exact hi
theorem t9{op:Oper}{t:Nat}(ho:op.op=.alloc t){d:Nat}{A:St}(hg:gOk ops op A.s)(hd:ca X.nt op)(hid:A.o d=none){ti:TI}(hti:TiOk P t ti) :
  bt P X ops op A.s A.o (effV ops op [] [d] (.lptr d 0) [(d,some (.box ti.zero))]):=by
 refine t8 hg hd hid λs' hs o' ρ Im a w hr=>?_;obtain⟨i,z,hi,_,_,hz,hzc,_⟩:=hti.info;have hpl:=hti.plain;rw[List.all_eq_true]at hpl;refine⟨⟨z.cells,t,?_,?_,λj c x hc hx=>?_⟩,λc hm j hj=>absurd hj (AV.plain_names (hpl c hm) j)⟩
 ·simp[execOp,ho,Instr.alloc,zeroValue,typeInfo,hi,hz,newVar,newRow]
 ·have:=congrArg List.length hzc;simpa using this
 ·have hx':z.cells.toList[j]? =some x:=by simpa using hx
  rw[hzc,List.getElem?_map,hc]at hx';simp only[Option.map_some,Option.some.injEq]at hx';subst hx';exact .imm _ _ (AV.plain_con (hpl c (List.mem_of_getElem? hc)) _ _)
end
def AV.one:AV->Bool
 |.junk|.agg _|.tup _=>false
 |_=>true
theorem Con.oneCell{ρ:Loc}{Im:Nat->Prop}{H:Heap}{v:AV}{x:Value}(h:Con ρ Im H v x)(h1:v.one=true):x.oneCell'=true:=by
 cases h with
 |imm _ _ hi=>cases hi<;>first|rfl|simp[AV.one]at h1
 |osub=>rfl
 |agg=>simp[AV.one]at h1
 |tup=>simp[AV.one]at h1
 |_=>rfl
def fD:List AV->Bool
 |[]=>true
 |c::r=>c.one&&fD r
theorem jQ{l:List AV}(h:fD l=true):∀c∈l,c.one=true:=by
 induction l with
 |nil=>simp
 |cons c r ih=>
  simp only[fD,Bool.and_eq_true]at h;intro d hd;rcases List.mem_cons.1 hd with rfl|hd
  ·exact h.1
  ·exact ih h.2 d hd
def spl:Nat->List AV->List AV->List AV
 |_,[],cs=>cs
 |_,_,[]=>[]
 |0,v::vs,_::cs=>v::spl 0 vs cs
 |o+1,vs,c::cs=>c::spl o vs cs
theorem x8:∀(o:Nat) (vs cs:List AV),o+vs.length<=cs.length->spl o vs cs=cs.take o++vs++cs.drop (o+vs.length)
 |o,[],cs,_=>by cases o<;>cases cs<;>simp[spl]
 |o,v::vs,[],h=>by simp at h
 |0,v::vs,c::cs,h=>by
  have:=x8 0 vs cs (by simp at h⊢;omega);simp[spl,this]
 |o+1,v::vs,c::cs,h=>by
  have:=x8 o (v::vs) cs (by simp at h⊢;omega);simp only[spl,this];have e:o+1+(v::vs).length=(o+(v::vs).length)+1:=ω;rw[e,List.drop_succ_cons];simp
theorem jz{o:Nat}{vs cs:List AV}(h:o+vs.length<=cs.length):(spl o vs cs).length=cs.length:=by
 rw[x8 o vs cs h];simp;omega
theorem nC:∀{o:Nat} {vs cs:List AV} {c:AV},c∈spl o vs cs->c∈vs\/c∈cs
 |o,[],cs,c,h=>by cases o<;>cases cs<;>simp[spl]at h⊢<;>exact h
 |o,v::vs,[],c,h=>by cases o<;>simp[spl]at h
 |0,v::vs,u::cs,c,h=>by
  simp only[spl,List.mem_cons]at h;rcases h with h|h
  ·exact .inl (by simp[h])
  ·rcases nC h with h|h
   ·exact .inl (by simp[h])
   ·exact .inr (by simp[h])
 |o+1,v::vs,u::cs,c,h=>by
  simp only[spl,List.mem_cons]at h;rcases h with h|h
  ·exact .inr (by simp[h])
  ·rcases nC h with h|h
   ·exact .inl h
   ·exact .inr (by simp[h])
def splV(o:Nat)(ys:List Value)(xs:Array Value):Array Value:=(xs.toList.take o++ys++xs.toList.drop (o+ys.length)).toArray
theorem iO{o:Nat}{ys:List Value}{xs:Array Value}(h:o+ys.length<=xs.size):(splV o ys xs).size=xs.size:=by simp[splV];omega
theorem ft{o:Nat}{ys:List Value}{xs:Array Value}(h:o+ys.length<=xs.size)(j:Nat):(splV o ys xs)[j]? =if o<=j/\j<o+ys.length then ys[j-o]? else xs[j]?:=by
 have e1:(xs.toList.take o).length=o:=by simp;omega
 simp only[splV,List.append_assoc,List.getElem?_toArray];rw[List.getElem?_append,e1];by_cases h1:j<o
 ·simp[h1,(ω:¬o<=j)]
 ·rw[if_neg h1,List.getElem?_append];by_cases h2:j-o<ys.length
  ·simp[h2,(ω:o<=j/\j<o+ys.length)]
  ·rw[if_neg h2,if_neg ω,List.getElem?_drop];simp only[Array.getElem?_toList];congr 1;omega
theorem vS{o:Nat}{vs cs:List AV}(h:o+vs.length<=cs.length)(j:Nat):(spl o vs cs)[j]? =if o<=j/\j<o+vs.length then vs[j-o]? else cs[j]?:=by
 rw[x8 o vs cs h];have e1:(cs.take o).length=o:=by simp;omega
 rw[List.append_assoc,List.getElem?_append,e1];by_cases h1:j<o
 ·simp[h1,(ω:¬o<=j)]
 ·rw[if_neg h1,List.getElem?_append];by_cases h2:j-o<vs.length
  ·simp[h2,(ω:o<=j/\j<o+vs.length)]
  ·rw[if_neg h2,if_neg ω,List.getElem?_drop];congr 1;omega
theorem eA(w:World)(g:Nat)(old cs:Array Value)(t:TypeId)(fr:Nat×Nat)(h:w.heap[g]? =some (.cells old t fr)):(w.setRow g cs).heap[g]? =some (.cells cs t fr):=by
 simp[World.setRow,Array.getElem?_modify,h]
theorem dL(w:World)(g b:Nat)(cs:Array Value)(h:b≠g):(w.setRow g cs).heap[b]? =w.heap[b]?:=by
 simp only[World.setRow,Array.getElem?_modify];rw[if_neg (Ne.symm h)]
section
variable {P:Program} {X:Frm} {ops:Array Oper} {T:Tab}
theorem vT{w:World}{t:Nat}{ti:TI}(hti:TiOk P t ti)(b off:Nat)(xs:Array Value)(e:TypeId)(v:Value)(hb:w.heap[b]? =some (.cells xs e (0,0)))(hl:v.cells.size=ti.size)(hfit:off+v.cells.size<=xs.size)
  (h1:∀u∈v.cells.toList,u.oneCell'=true):(Instr.storeAt t (.pointer (some ⟨b,off,none⟩)) v).run P w=.ok () (w.setRow b (splV off v.cells.toList xs)):=by
 have hr:=run_storeCells_at P b off e v.cells.toList 0 xs w hb (by simpa using hfit) h1;simp only[Nat.add_zero]at hr;simp[Instr.storeAt,Instr.sureAddr,storeVar,hti.sizeOf,hl,hr,splV]
theorem RelAt.write{ρ:Loc}{Im:Nat->Prop}{s:Nat->Option AV}{o:Xd}{a:Act}{w:World}(h:RelAt X ρ Im s o a w){id:Nat}{ob ob':LObj}(hob:o id=some ob)(hl:ob.live=true)(hrc:ob.isRec=false){b:Nat}(hb:(ρ id).1=some b)
  (cs:Array Value) (hcon:ObjCon ρ Im (w.setRow b cs).heap id ob') (hn:∀i,NamesO i ob'->o i≠none):RelAt X ρ Im s (luO [(id,some ob')] o) a (w.setRow b cs):=by
 have ho':∀i,i≠id->luO [(id,some ob')] o i=o i:=λi hi=>by simp[luO,hi]
 have hal:∀i,o i≠none->luO [(id,some ob')] o i≠none:=λi hi=>by
  by_cases e:i=id
  ·subst e;simp[luO]
  ·rw[ho' i e];exact hi
 have hown:=h.own id ob b hob hl hb;refine h.upd (λi=>i=id) rfl rfl rfl η (λb' hb' hne=>dL w b b' cs (λe=>hne id ob rfl hob hl (by rw[e];exact hb))) (λi _=>rfl) (λi hi=>ho' i hi) hal (λi ob2 hi hob2=>?_) (λi ob2 hi hob2=>by rw[hi,hob]at hob2;cases hob2;exact hrc);subst hi;have:ob2=ob':=by simp[luO]at hob2;exact hob2.symm
 subst this;refine⟨hcon,λj hj=>hal j (hn j hj),λ_ b2 hb2=>?_,λ_ b2 hb2 id' ob3 hob3 hl3 hb3=>?_⟩
 ·rw[hb]at hb2;cases hb2;exact⟨hown.1,by simpa using hown.2.1,hown.2.2⟩
 ·by_cases he:id'=i
  ·exact he
  ·rw[ho' id' he]at hob3;exact h.inj id' i ob3 ob b2 hob3 hl3 hob hl hb3 hb2
def ql(ti:TI)(o:Xd)(p v:AV)(k:Nat->LObj->Prop):Prop :=
 match p with
 |.lptr id off=>match o id with
  |some (.box cs)=>ck (Nat.beq v.cellsL.length ti.size&&(Nat.ble (off+v.cellsL.length) cs.length&&fD v.cellsL)) (k id (.box (spl off v.cellsL cs)))
  |_=>False
 |.optr id sz i j=>match o id with
  | some (.arr n sz' get e)=>ck (Nat.beq v.cellsL.length ti.size && (Nat.beq sz' sz && (Nat.ble (j + v.cellsL.length) sz && fD v.cellsL))) (Side (i<n)
    (k id (.arr n sz' (λi'=>bif Nat.beq i' i then spl j v.cellsL (get i)else get i') e)))
  |_=>False
 |_=>False
theorem mY{v:AV}(h:fD v.cellsL=true):v≠.junk:=by
 intro e;subst e;simp[AV.cellsL,fD,AV.one]at h
theorem tA{op:Oper}{t:Nat}{x y:Operand}(ho:op.op=.store t x y){A:St}(hg:gOk ops op A.s)(hd:ca X.nt op){ti:TI}(hti:TiOk P t ti){p v:AV}(hp:opdV A.s x=some p)(hv:opdV A.s y=some v){k:Nat->LObj->Prop}
  (h:ql ti A.o p v k):∃id ob,k id ob/\bt P X ops op A.s A.o (effV ops op (opdS x++opdS y) [id] .junk [(id,some ob)]):=by
 have fin:∀(id:Nat) (ob ob':LObj),A.o id=some ob->ob.live=true->ob.isRec=false->fD v.cellsL=true->Nat.beq v.cellsL.length ti.size=true->(∀i,NamesO i ob'->NamesO i ob\/Names i v)->
   (∀(ρ:Loc) (Im:Nat->Prop) (w:World) (u z:Value),Con ρ Im w.heap p u->Con ρ Im w.heap v z->ObjCon ρ Im w.heap id ob->(∀b,(ρ id).1=some b->¬Im b)->
    ∃b off xs e,u=.pointer (some ⟨b,off,none⟩)/\(ρ id).1=some b/\w.heap[b]? =some (.cells xs e (0,0))/\off+z.cells.size<=xs.size/\
     (∀H':Heap,H'[b]? =some (.cells (splV off z.cells.toList xs) e (0,0))->(∀b',b'≠b->H'[b']? =w.heap[b']?)->ObjCon ρ Im H' id ob'))->
   bt P X ops op A.s A.o (effV ops op (opdS x++opdS y) [id] .junk [(id,some ob')]):=by
  intro id ob ob' hob hl hrc hone hlen hnm hh;refine cA hg hd λs' o' hs ho' ρ Im a w hr=>?_;have hp':opdV s' x=some p:=(az λk hk=>hs k (by simp[hk])).trans hp;have hv':opdV s' y=some v:=(az λk hk=>hs k (by simp[hk])).trans hv;have hob':o' id=some ob:=(ho' id η).trans hob;have hcz:=iN (hr.opd hv') (mY hone);obtain⟨b,off,xs,e,e1,hb,hhp,hfit,hcon⟩:=hh ρ Im w _ _ (hr.opd hp') (hr.opd hv') (hr.objs id ob hob') (λb hb=>(hr.own id ob b hob' hl hb).1);have hsz:(a.eval y).cells.size=ti.size:=by rw[hcz.1];exact Nat.eq_of_beq_eq_true hlen
  have hrun:=vT (P:=P) hti b off xs e (a.eval y) hhp hsz hfit (fun u hu=>by
   obtain⟨i,hi,rfl⟩:=List.mem_iff_getElem.1 hu;have hi2:i<v.cellsL.length:=by rw[<-hcz.1];simpa using hi
   exact(hcz.2 i v.cellsL[i] _ η η).oneCell (jQ hone _ η))
  unfold Oper.wp;have he:(execOp a.eval op).run P w=.ok .skip (w.setRow b (splV off (a.eval y).cells.toList xs)):=by simp[execOp,ho,e1,hrun]
  rw[he];refine⟨undef,ρ,Im,rfl,hr.write hob' hl hrc hb _ ?_ (λi hi=>?_),.imm _ _ (.junk _),λi hi=>by cases hi⟩
  ·exact hcon _ (eA w b xs _ e (0,0) hhp) λb' hb'=>dL w b b' _ hb'
  ·rcases hnm i hi with h1|h1
   ·exact hr.ocl id ob hob' i h1
   ·exact hr.opdN hv' h1
 have hcn:∀c∈v.cellsL,∀i,Names i c->Names i v:=by
  intro c hm i hi;unfold AV.cellsL at hm;split at hm
  ·exact .agg _ c hm hi
  ·simp at hm;subst hm;exact hi
 unfold ql at h;split at h
 ·rename_i id off;split at h
  ·rename_i cs hob;obtain⟨hb,hk⟩:=aY h;simp only[Bool.and_eq_true]at hb;obtain⟨h1,h2,h3⟩:=hb;have h2':off+v.cellsL.length<=cs.length:=Nat.le_of_ble_eq_true h2;refine⟨id,_,hk,fin id _ _ hob rfl rfl h3 h1 (λi hi=>?_) λρ Im w u z hpu hvz hobc him=>?_⟩
   ·cases hi with
    |box _ c hm hi=>
     rcases nC hm with hm|hm
     ·exact .inr (hcn c hm i hi)
     ·exact .inl (.box _ c hm hi)
   ·cases hobc with
    |box _ b xs e hρ hh hc=>
     cases hpu with
     |imm _ _ hi=>cases hi
     |lptr _ _ b' hb'=>
      rw[hρ]at hb';cases hb';have hcz:=iN hvz (mY h3);have hfit:off+z.cells.toList.length<=xs.size:=by rw[hc.1];simp[hcz.1,h2']
      refine⟨b,off,xs,e,rfl,hρ,hh,by simpa using hfit,λH' hH' hne=>.box _ b _ e hρ hH' ⟨?_,λj c y hcj hyj=>?_⟩⟩
      ·rw[iO hfit,jz h2',hc.1]
      ·have hmono:∀{c:AV} {y:Value},Con ρ Im w.heap c y->Con ρ Im H' c y:=λhcy=>hcy.mono (λb hb=>hb) λb2 hb2=>hne b2 λe=>him b hρ (e▸hb2);rw[vS h2']at hcj;rw[ft hfit]at hyj;have hzl:z.cells.toList.length=v.cellsL.length:=by simp[hcz.1]
       rw[hzl]at hyj;split at hcj
       ·rename_i hcond;rw[if_pos hcond]at hyj;exact hmono (hcz.2 _ c y hcj (by simpa using hyj))
       ·rename_i hcond;rw[if_neg hcond]at hyj;exact hmono (hc.2 j c y hcj hyj)
  ·exact h.elim
 ·rename_i id sz i j;split at h
  ·rename_i n sz' get e hob;obtain⟨hb,hlt,hk⟩:=aY h;simp only[Bool.and_eq_true]at hb;obtain⟨h1,h2,h4,h3⟩:=hb;have h2:sz'=sz:=Nat.eq_of_beq_eq_true h2;subst h2;have h4':j+v.cellsL.length<=sz':=Nat.le_of_ble_eq_true h4;refine⟨id,_,hk,fin id _ _ hob rfl rfl h3 h1 (λq hq=>?_) λρ Im w u z hpu hvz hobc him=>?_⟩
   ·cases hq with
    |arr _ _ _ _ i0 c hi0 hm hq=>
     simp only[aG]at hm;split at hm
     ·rcases nC hm with hm|hm
      ·exact .inr (hcn c hm q hq)
      ·exact .inl (.arr _ _ _ _ i c hlt hm hq)
     ·exact .inl (.arr _ _ _ _ i0 c hi0 hm hq)
   ·cases hobc with
    |arr0=>omega
    |arr _ _ _ _ b xs hρ hh hn hcap hxs hbd hsz hc=>
     cases hpu with
     |imm _ _ hi=>cases hi
     |optr _ _ _ _ b' hb'=>
      rw[hρ]at hb';cases hb';have hcz:=iN hvz (mY h3);have hzl:z.cells.toList.length=v.cellsL.length:=by simp[hcz.1]
      have hle:(i+1)*sz'<=(ρ id).2*sz':=Nat.mul_le_mul_right _ ω;have hadd:(i+1)*sz'=i*sz'+sz':=Nat.succ_mul i sz';have hgi:=hsz i hlt;have hfit:i*sz'+j+z.cells.toList.length<=xs.size:=ω;have hspl:j+v.cellsL.length<=(get i).length:=ω;refine⟨b,i*sz'+j,xs,e,rfl,hρ,hh,by simpa using hfit,λH' hH' hne=>.arr n sz' _ e b _ hρ hH' hn hcap (by rw[iO hfit];exact hxs) hbd (λi0 hi0=>?_) λi0 j0 c y hi0 hcj hyj=>?_⟩
      ·simp only[aG];split
       ·rw[jz hspl];exact hgi
       ·exact hsz i0 hi0
      ·have hmono:∀{c:AV} {y:Value},Con ρ Im w.heap c y->Con ρ Im H' c y:=λhcy=>hcy.mono (λb hb=>hb) λb2 hb2=>hne b2 λe=>him b hρ (e▸hb2);rw[ft hfit,hzl]at hyj;simp only[aG]at hcj;split at hcj
       ·rename_i hi0i;subst hi0i;rw[vS hspl]at hcj;by_cases hcond:j<=j0/\j0<j+v.cellsL.length
        ·rw[if_pos hcond]at hcj;rw[if_pos ω]at hyj;refine hmono (hcz.2 _ c y hcj ?_);rw[(ω:i0*sz'+j0-(i0*sz'+j)=j0-j)]at hyj;simpa using hyj
        ·rw[if_neg hcond]at hcj;rw[if_neg ω]at hyj;exact hmono (hc i0 j0 c y hi0 hcj hyj)
       ·rename_i hi0i;have hj0:j0<sz':=by
         have:=(List.getElem?_eq_some_iff.1 hcj).1;have:=hsz i0 hi0;omega
        have hout:¬(i*sz'+j<=i0*sz'+j0/\i0*sz'+j0<i*sz'+j+v.cellsL.length):=by
         rintro⟨g1,g2⟩;rcases Nat.lt_or_gt_of_ne hi0i with g|g
         ·have:(i0+1)*sz'<=i*sz':=Nat.mul_le_mul_right _ g;rw[Nat.succ_mul]at this;omega
         ·have:(i+1)*sz'<=i0*sz':=Nat.mul_le_mul_right _ g;omega
        rw[if_neg hout]at hyj;exact hmono (hc i0 j0 c y hi0 hcj hyj)
  ·exact h.elim
 ·exact h.elim
end
section
variable {P:Program}
theorem pN{w:World}{t e:Nat}(ht:P.underlying t=some (.slice e)){te:TI}(hte:TiOk P e te)(ty:TypeId)(base:Option Nat)(n cap:Nat)(cur:Array Value)
  (hd:(base=none/\n=0/\cap=0)\/∃g,base=some g/\w.heap[g]? =some (.cells cur e (0,0))/\n<=cap/\cap<=maxLen/\cur.size=cap*te.size)
  (sv:Value) (m:Nat) (news:List Value) (hl:news.length=m*te.size) (hs:(sv=.slice none 0 0/\m=0)\/∃a c,sv=.slice (some a) m c/\∀j u,news[j]? =some u->w.cell? (a.add j)=some u)
  (h1:∀u∈news,u.oneCell'=true) (hb:(n+m)*te.bytes<=140737488355328) (hm:n+m<=dZ) :
  ∃base' cap' w',(Builtin.append_ #[t,t] ty #[.slice (base.map λb=>⟨b,0,none⟩) n cap,sv]).run P w=.ok (.slice (base'.map λb=>⟨b,0,none⟩) (n+m) cap') w'/\
   ((base'=none/\n+m=0/\cap'=0)\/∃(g':Nat) (cur':Array Value),base'=some g'/\w'.heap[g']? =some (.cells cur' e (0,0))/\n+m<=cap'/\cap'<=maxLen/\cur'.size=cap'*te.size/\
    (∀j,j<n*te.size->cur'[j]? =cur[j]?)/\(∀j,j<m*te.size->cur'[n*te.size+j]? =news[j]?)/\(base=some g'\/g'=w.heap.size))/\
   w'.os=w.os/\w'.tape=w.tape/\w'.output=w.output/\w.heap.size<=w'.heap.size/\∀b,b<w.heap.size->base≠some b->w'.heap[b]? =w.heap[b]?:=by
 obtain⟨i,z,hi,hsz,hby,hz,hzc,_⟩:=hte.info;have hml:n+m<=maxLen:=by simp only[dZ,maxLen]at hm⊢;omega
 have h63:((n+m:Nat):Int)<=9223372036854775807:=by simp only[dZ]at hm;omega
 rw[<-hsz]at hl;rw[<-hby]at hb;have hzsz:z.cells.size=i.size:=by
  have:=congrArg List.length hzc;rw[List.length_map,hte.zlen]at this;rw[hsz];simpa using this
 have hadd:(n+m)*i.size=n*i.size+m*i.size:=Nat.add_mul _ _ _;rcases hd with⟨rfl,rfl,rfl⟩|⟨g,rfl,hg,hnc,hcm,hcs⟩
 ·--a nil slice
  simp only[Nat.zero_add]at *;have dry:m=0->∃base' cap' w',(Builtin.append_ #[t,t] ty #[.slice ((none:Option Nat).map λb=>⟨b,0,none⟩) 0 0,sv]).run P w=.ok (.slice (base'.map λb=>⟨b,0,none⟩) m cap') w'/\
    ((base'=none/\m=0/\cap'=0)\/∃g' cur',base'=some g'/\w'.heap[g']? =some (.cells cur' e (0,0))/\m<=cap'/\cap'<=maxLen/\cur'.size=cap'*te.size/\
     (∀j,j<0*te.size->cur'[j]? =cur[j]?)/\(∀j,j<m*te.size->cur'[0*te.size+j]? =news[j]?)/\(none=some g'\/g'=w.heap.size))/\
    w'.os=w.os/\w'.tape=w.tape/\w'.output=w.output/\w.heap.size<=w'.heap.size/\∀b,b<w.heap.size->none≠some b->w'.heap[b]? =w.heap[b]?:=by
   intro hm0;subst hm0;refine⟨none,0,w,?_,.inl ⟨rfl,rfl,rfl⟩,rfl,rfl,rfl,ξ _,λ_ _ _=>rfl⟩;have hn0:news=[]:=List.eq_nil_of_length_eq_zero (by simpa using hl);rcases hs with⟨rfl,_⟩|⟨a,c,rfl,_⟩
   ·simp[Builtin.append_,run_underlying ht,sizeOf,typeInfo,hi,Builtin.lenOf,Builtin.firstCells]
   ·simp[Builtin.append_,run_underlying ht,sizeOf,typeInfo,hi,Builtin.lenOf,Builtin.firstCells,loadCells,loadCellsFrom]
  rcases hs with⟨rfl,hm0⟩|⟨a,c,rfl,hnews⟩
  ·exact dry hm0
  ·by_cases hm0:m=0
   ·exact dry hm0
   ·have hr:=run_append_nil (P:=P) w t ty e i z ht hi hz a m c news hl hnews ω h63 ω;have hge:=grownCap_ge w m 0 e;refine⟨some w.heap.size,grownCap w m 0 e,_,hr,.inr ⟨w.heap.size,_,rfl,heap_alloc_new w.drew _,hge,grownCap_le_maxLen w m 0 e hml,?_,λj hj=>by simp at hj,λj hj=>?_,.inr rfl⟩,rfl,rfl,rfl,by simp,λb hb _=>heap_alloc_old w.drew _ b hb⟩
    ·rw[Array.size_append,size_zeroCells,hzsz,List.size_toArray,hl,<-Nat.add_mul,hsz];congr 1;omega
    ·simp only[Nat.zero_mul,Nat.zero_add];rw[Array.getElem?_append_left (by simp;rw[hl,hsz];exact hj)];simp
 ·--an array of its own
  have keep:m=0->∃base' cap' w',(Builtin.append_ #[t,t] ty #[.slice ((some g).map λb=>⟨b,0,none⟩) n cap,sv]).run P w=.ok (.slice (base'.map λb=>⟨b,0,none⟩) (n+m) cap') w'/\
    ((base'=none/\n+m=0/\cap'=0)\/∃(g':Nat) (cur':Array Value),base'=some g'/\w'.heap[g']? =some (.cells cur' e (0,0))/\n+m<=cap'/\cap'<=maxLen/\cur'.size=cap'*te.size/\
     (∀j,j<n*te.size->cur'[j]? =cur[j]?)/\(∀j,j<m*te.size->cur'[n*te.size+j]? =news[j]?)/\(some g=some g'\/g'=w.heap.size))/\
    w'.os=w.os/\w'.tape=w.tape/\w'.output=w.output/\w.heap.size<=w'.heap.size/\∀b,b<w.heap.size->some g≠some b->w'.heap[b]? =w.heap[b]?:=by
   intro hm0;subst hm0;refine⟨some g,cap,w,?_,.inr ⟨g,cur,rfl,hg,hnc,hcm,hcs,λ_ _=>rfl,λj hj=>by simp at hj,.inl rfl⟩,rfl,rfl,rfl,ξ _,λ_ _ _=>rfl⟩;rcases hs with⟨rfl,_⟩|⟨a,c,rfl,hnews⟩
   ·simp[Builtin.append_,run_underlying ht,sizeOf,typeInfo,hi,Builtin.lenOf,Builtin.firstCells,hnc,storeCells]
   ·simp[Builtin.append_,run_underlying ht,sizeOf,typeInfo,hi,Builtin.lenOf,Builtin.firstCells,loadCells,loadCellsFrom,hnc,storeCells]
  rcases hs with⟨rfl,hm0⟩|⟨a,c,rfl,hnews⟩
  ·exact keep hm0
  ·by_cases hroom:n+m<=cap
   ·have hle:(n+m)*i.size<=cap*i.size:=Nat.mul_le_mul_right _ hroom;have hfit:n*i.size+news.length<=cur.size:=by rw[hcs,<-hsz];omega
    have hr:=run_append_room (P:=P) w t ty e i ht hi g n cap cur hg a m c news hl hnews h1 hroom hfit;have e1:(cur.toList.take (n*i.size)++news++cur.toList.drop (n*i.size+news.length)).toArray=splV (n*i.size) news cur:=rfl;rw[e1]at hr;refine⟨some g,cap,_,hr,.inr ⟨g,_,rfl,eA w g cur _ e (0,0) hg,hroom,hcm,by rw[iO hfit];exact hcs,λj hj=>?_,λj hj=>?_,.inl rfl⟩,rfl,rfl,rfl,by simp,λb _ hne=>dL w g b _ (λe=>hne (by rw[e]))⟩
    ·rw[ft hfit,if_neg (by rw[hsz];omega)]
    ·have hl':news.length=m*te.size:=by rw[<-hsz];exact hl
     rw[ft hfit,hsz,if_pos ⟨ω,ω⟩];congr 1;omega
   ·have hgr:=growslice_fits (need:=n+m) (old:=cap) (bytes:=i.bytes) ω hb;have hr:=run_append_grow (P:=P) w t ty e i z ht hi hz ⟨g,0,none⟩ n cap (cur.toList.take (n * i.size)) (by
      have hle:n*i.size<=cap*i.size:=Nat.mul_le_mul_right _ hnc;simp;rw [hcs,<- hsz];omega) (fun j v hv=>by
      rw[Addr.add_lit,cell_of_row w g _ cur e (0,0) hg];rw[List.getElem?_take]at hv;split at hv
      ·simpa using hv
      ·cases hv) a m c news hl hnews ω h63 hgr
    have hge:=grownCap_ge w (n+m) cap e;have hlen:(cur.toList.take (n*i.size)).length=n*i.size:=by
     have hle:n*i.size<=cap*i.size:=Nat.mul_le_mul_right _ hnc;simp;rw[hcs,<-hsz];omega
    refine⟨some w.heap.size,grownCap w (n+m) cap e,_,hr,.inr ⟨w.heap.size,_,rfl,heap_alloc_new w.drew _,hge,grownCap_le_maxLen w (n+m) cap e hml,?_,λj hj=>?_,λj hj=>?_,.inr rfl⟩,rfl,rfl,rfl,by simp,λb hb _=>heap_alloc_old w.drew _ b hb⟩
    ·rw[Array.size_append,Array.size_append,size_zeroCells,hzsz,List.size_toArray,List.size_toArray,hlen,hl,<-Nat.add_mul,<-Nat.add_mul,hsz];congr 1;omega
    ·rw[Array.append_assoc,Array.getElem?_append_left (by rw[List.size_toArray,hlen,hsz];exact hj)];rw[List.getElem?_toArray,List.getElem?_take,if_pos (by rw[hsz];exact hj)];simp
    ·rw[Array.getElem?_append_left (by rw[Array.size_append,List.size_toArray,List.size_toArray,hlen,hl,hsz];omega)];rw[Array.getElem?_append_right (by rw[List.size_toArray,hlen,hsz];omega)];rw[List.size_toArray,hlen,hsz,Nat.add_sub_cancel_left];simp
theorem pO{w:World}{t e:Nat}(ht:P.underlying t=some (.slice e)){te:TI}(hte:TiOk P e te)(ty:TypeId)(p:Option Addr)(cur:Array Value)
  (sv:Value) (m:Nat) (news:List Value) (hl:news.length=m*te.size) (hs:(sv=.slice none 0 0/\m=0)\/∃a c,sv=.slice (some a) m c/\∀j u,news[j]? =some u->w.cell? (a.add j)=some u)
  (hb:m*te.bytes<=140737488355328) (hm:m<=dZ) (hpos:0<m) :
  ∃base' cap' w',(Builtin.append_ #[t,t] ty #[.slice p 0 0,sv]).run P w=.ok (.slice (base'.map λb=>⟨b,0,none⟩) (0+m) cap') w'/\
   ((base'=none/\0+m=0/\cap'=0)\/∃g' cur',base'=some g'/\w'.heap[g']? =some (.cells cur' e (0,0))/\0+m<=cap'/\cap'<=maxLen/\cur'.size=cap'*te.size/\
    (∀j,j<0*te.size->cur'[j]? =cur[j]?)/\(∀j,j<m*te.size->cur'[0*te.size+j]? =news[j]?)/\((none:Option Nat)=some g'\/g'=w.heap.size))/\
   w'.os=w.os/\w'.tape=w.tape/\w'.output=w.output/\w.heap.size<=w'.heap.size/\∀b,b<w.heap.size->(none:Option Nat)≠some b->w'.heap[b]? =w.heap[b]?:=by
 obtain⟨i,z,hi,hsz,hby,hz,hzc,_⟩:=hte.info;have hml:m<=maxLen:=by simp only[dZ,maxLen]at hm⊢;omega
 have h63:((m:Nat):Int)<=9223372036854775807:=by simp only[dZ]at hm;omega
 rw[<-hsz]at hl;rw[<-hby]at hb;have hzsz:z.cells.size=i.size:=by
  have:=congrArg List.length hzc;rw[List.length_map,hte.zlen]at this;rw[hsz];simpa using this
 simp only[Nat.zero_add,Nat.zero_mul];rcases hs with⟨rfl,hm0⟩|⟨a,c,rfl,hnews⟩
 ·omega
 ·have hr:(Builtin.append_ #[t,t] ty #[.slice p 0 0,.slice (some a) m c]).run P w=.ok (.slice (some ⟨w.heap.size,0,none⟩) m (grownCap w m 0 e)) (w.drew.alloc (.cells (news.toArray++Builtin.zeroCells z.cells (grownCap w m 0 e-m)) e)):=by
   cases p with
   |none=>exact run_append_nil (P:=P) w t ty e i z ht hi hz a m c news hl hnews ω h63 ω
   |some q=>
    have hgr:=growslice_fits (need:=0+m) (old:=0) (bytes:=i.bytes) ω (by rw[Nat.zero_add];exact hb);have:=run_append_grow (P:=P) w t ty e i z ht hi hz q 0 0 [] η (λj v hv=>by simp at hv) a m c news hl hnews ω (by rw[Nat.zero_add];exact h63) hgr;simpa using this
  have hge:=grownCap_ge w m 0 e;refine⟨some w.heap.size,grownCap w m 0 e,_,hr,.inr ⟨w.heap.size,_,rfl,heap_alloc_new w.drew _,hge,grownCap_le_maxLen w m 0 e hml,?_,λj hj=>ω,λj hj=>?_,.inr rfl⟩,rfl,rfl,rfl,by simp,λb hb _=>heap_alloc_old w.drew _ b hb⟩
  ·rw[Array.size_append,size_zeroCells,hzsz,List.size_toArray,hl,<-Nat.add_mul,hsz];congr 1;omega
  ·rw[Array.getElem?_append_left (by simp;rw[hl,hsz];exact hj)];simp
theorem pP{w:World}{t e:Nat}(ht:P.underlying t=some (.slice e)){te:TI}(hte:TiOk P e te)(ty:TypeId)(q:Addr)(n:Nat)(olds:List Value)(hlo:olds.length=n*te.size)(holds:∀j v,olds[j]? =some v->w.cell? (q.add j)=some v)
  (sv:Value) (m:Nat) (news:List Value) (hl:news.length=m*te.size) (hs:(sv=.slice none 0 0/\m=0)\/∃a c,sv=.slice (some a) m c/\∀j u,news[j]? =some u->w.cell? (a.add j)=some u)
  (hb:(n+m)*te.bytes<=140737488355328) (hm:n+m<=dZ) (hpos:0<m) :
  ∃base' cap' w',(Builtin.append_ #[t,t] ty #[.slice (some q) n n,sv]).run P w=.ok (.slice (base'.map λb=>⟨b,0,none⟩) (n+m) cap') w'/\
   ((base'=none/\n+m=0/\cap'=0)\/∃(g':Nat) (cur':Array Value),base'=some g'/\w'.heap[g']? =some (.cells cur' e (0,0))/\n+m<=cap'/\cap'<=maxLen/\cur'.size=cap'*te.size/\
    (∀j,j<n*te.size->cur'[j]? =olds.toArray[j]?)/\(∀j,j<m*te.size->cur'[n*te.size+j]? =news[j]?)/\((none:Option Nat)=some g'\/g'=w.heap.size))/\
   w'.os=w.os/\w'.tape=w.tape/\w'.output=w.output/\w.heap.size<=w'.heap.size/\∀b,b<w.heap.size->(none:Option Nat)≠some b->w'.heap[b]? =w.heap[b]?:=by
 obtain⟨i,z,hi,hsz,hby,hz,hzc,_⟩:=hte.info;have hml:n+m<=maxLen:=by simp only[dZ,maxLen]at hm⊢;omega
 have h63:((n+m:Nat):Int)<=9223372036854775807:=by simp only[dZ]at hm;omega
 rw[<-hsz]at hl hlo;rw[<-hby]at hb;have hzsz:z.cells.size=i.size:=by
  have:=congrArg List.length hzc;rw[List.length_map,hte.zlen]at this;rw[hsz];simpa using this
 rcases hs with⟨rfl,hm0⟩|⟨a,c,rfl,hnews⟩
 ·omega
 ·have hgr:=growslice_fits (need:=n+m) (old:=n) (bytes:=i.bytes) ω hb;have hr:=run_append_grow (P:=P) w t ty e i z ht hi hz q n n olds hlo holds a m c news hl hnews ω h63 hgr;have hge:=grownCap_ge w (n+m) n e;refine⟨some w.heap.size,grownCap w (n+m) n e,_,hr,.inr ⟨w.heap.size,_,rfl,heap_alloc_new w.drew _,hge,grownCap_le_maxLen w (n+m) n e hml,?_,λj hj=>?_,λj hj=>?_,.inr rfl⟩,rfl,rfl,rfl,by simp,λb hb _=>heap_alloc_old w.drew _ b hb⟩
  ·rw[Array.size_append,Array.size_append,size_zeroCells,hzsz,List.size_toArray,List.size_toArray,hlo,hl,<-Nat.add_mul,<-Nat.add_mul,hsz];congr 1;omega
  ·rw[Array.append_assoc,Array.getElem?_append_left (by rw[List.size_toArray,hlo,hsz];exact hj)]
  ·rw[Array.getElem?_append_left (by rw[Array.size_append,List.size_toArray,List.size_toArray,hlo,hl,hsz];omega)];rw[Array.getElem?_append_right (by rw[List.size_toArray,hlo,hsz];omega)];rw[List.size_toArray,hlo,hsz,Nat.add_sub_cancel_left];simp
end
section
variable {P:Program} {X:Frm} {ops:Array Oper} {T:Tab}
inductive Src(o:Xd):AV->Nat->Nat->(Nat->List AV)->List Nat->Prop
 |isl (n sz get):Src o (.isl n sz get) n sz get []
 |osl (id n m sz get e) (h:o id=some (.arr m sz get e)) (hm:n<=m):Src o (.osl id n) n sz get [id]
 |nils (sz):Src o .nils 0 sz (λ_=>[]) []
theorem Src.read{o:Xd}{v:AV}{m sz:Nat}{get:Nat->List AV}{ro:List Nat}(h:Src o v m sz get ro){ρ:Loc}{Im:Nat->Prop}{w:World}(hm:Mem X ρ Im o w){u:Value}(hu:Con ρ Im w.heap v u) :
  m <= slMax/\(((∃p,u=.slice p 0 0)/\m=0)\/∃b off cap arr T fr,u=.slice (some ⟨b,off,none⟩) m cap/\w.heap[b]? =some (.cells arr T fr)/\off+m*sz<=arr.size/\(∀i,i<m->(get i).length=sz)/\
   ∀(i j:Nat) (c:AV) (x:Value),i<m->(get i)[j]? =some c->arr[off+i*sz+j]? =some x->Con ρ Im w.heap c x)/\∀i,i<m->∀c∈get i,∀k,Names k c->o k≠none:=by
 cases h with
 |isl=>
  rcases hu.isl_inv with⟨hn,hx⟩|⟨b,off,cap,arr,T,fr,rfl,him,hb,hsz,hn,hbd,hfit,hc⟩
  ·exact⟨by rw[hn];exact π _,.inl ⟨hx,hn⟩,λi hi=>ω⟩
  ·refine⟨hbd,.inr ⟨b,off,cap,arr,T,fr,rfl,hb,hfit,hsz,λi j c x h1 h2 h3=>.imm _ _ (hc i j c x h1 h2 h3)⟩,λi hi c hm k hk=>?_⟩;obtain⟨j,hj,rfl⟩:=List.mem_iff_getElem.1 hm;have hle:(i+1)*sz<=m*sz:=Nat.mul_le_mul_right _ hi;have hadd:(i+1)*sz=i*sz+sz:=Nat.succ_mul i sz;have hlen:=hsz i hi;exact absurd hk ((hc i j _ (arr[off+i*sz+j]'ω) hi η η).noNames k)
 |osl id _ n' _ _ e ho hle=>
  obtain⟨hbd,hne,hnc,rfl⟩:=hu.osl_inv;refine⟨r8 hbd,?_,λi hi c hc k hk=>hm.ocl id _ ho k (.arr _ _ _ _ i c ω hc hk)⟩;have hob:=hm.objs id _ ho;cases hob with
  |arr0 _ _ _ hρ=>
   have:m=0:=ω;subst this;exact .inl ⟨by simp[hρ],rfl⟩
  |arr _ _ _ _ b xs hρ hh hn hcap hxs hbd' hsz hc=>
   refine .inr ⟨b,0,(ρ id).2,xs,e,(0,0),by simp[hρ],hh,?_,λi hi=>hsz i ω,λi j c x h1 h2 h3=>hc i j c x ω h2 (by simpa using h3)⟩;have:m*sz<=(ρ id).2*sz:=Nat.mul_le_mul_right _ hnc;omega
 |nils=>
  cases hu.nils_inv;exact⟨π _,.inl ⟨⟨none,rfl⟩,rfl⟩,λi hi=>ω⟩
theorem Src.congr{o o':Xd}{v:AV}{m sz:Nat}{get:Nat->List AV}{ro:List Nat}(h:Src o v m sz get ro)(ho:∀i∈ro,o' i=o i):Src o' v m sz get ro:=by
 cases h with
 |isl=>exact .isl _ _ _
 |osl id _ n' _ _ e h hle=>exact .osl id _ n' _ _ e ((ho id η).trans h) hle
 |nils=>exact .nils _
theorem Ba{ρ:Loc}{Im:Nat->Prop}{H:Heap}{m sz off:Nat}{get:Nat->List AV}{arr:Array Value}(_hfit:off+m*sz<=arr.size)
  (hc:∀(i j:Nat) (c:AV) (x:Value),i<m->(get i)[j]? =some c->arr[off+i*sz+j]? =some x->Con ρ Im H c x) :
  ∀(i j:Nat) (c:AV) (x:Value),i<m->(get i)[j]? =some c->((arr.toList.drop off).take (m*sz))[i*sz+j]? =some x->Con ρ Im H c x:=by
 intro i j c x hi hcj hx;rw[List.getElem?_take]at hx;split at hx
 ·rw[List.getElem?_drop]at hx;exact hc i j c x hi hcj (by rw[Nat.add_assoc];simpa using hx)
 ·cases hx
theorem RelAt.append{ρ:Loc}{Im:Nat->Prop}{s:Nat->Option AV}{o:Xd}{a:Act}{w w':World}(h:RelAt X ρ Im s o a w){d:Nat}(hd:o d=none){old:List Nat}{base:Option Nat}{n m sz e:Nat}{get1 get2:Nat->List AV}{cur:Array Value}
  (hold:(old=[]/\base=none/\∀i,i<n->∀c∈get1 i,∀k,¬Names k c)\/∃id m1,old=[id]/\o id=some (.arr m1 sz get1 e)/\n<=m1/\id∉X.pid/\(ρ id).1=base)
  (hcur:∀(i j:Nat) (c:AV) (x:Value),i<n->(get1 i)[j]? =some c->cur[i*sz+j]? =some x->Con ρ Im w.heap c x) (hl1:∀i,i<n->(get1 i).length=sz)
  {news:List Value} (hnew:∀(i j:Nat) (c:AV) (x:Value),i<m->(get2 i)[j]? =some c->news[i*sz+j]? =some x->Con ρ Im w.heap c x) (hl2:∀i,i<m->(get2 i).length=sz)
  (hn2:∀i,i<m->∀c∈get2 i,∀k,Names k c->o k≠none) {base':Option Nat} {cap':Nat} (hbd:n+m<=dZ)
  (hb : (base'=none/\n+m=0/\cap'=0)\/∃g' cur',base'=some g'/\w'.heap[g']? =some (.cells cur' e (0,0))/\n+m<=cap'/\cap'<=maxLen/\cur'.size=cap'*sz/\
      (∀j,j<n*sz->cur'[j]? =cur[j]?)/\(∀j,j<m*sz->cur'[n*sz+j]? =news[j]?)/\(base=some g'\/g'=w.heap.size))
  (hos:w'.os=w.os) (htape:w'.tape=w.tape) (hout:w'.output=w.output) (hsize:w.heap.size<=w'.heap.size) (hblk:∀b,b<w.heap.size->base≠some b->w'.heap[b]? =w.heap[b]?) :
  RelAt X (ρ.set d (base',cap')) Im s (luO ((d,some (.arr (n+m) sz (λi=>bif Nat.blt i n then get1 i else get2 (i-n)) e))::old.map λi=>(i,some .dead)) o) a w':=by
 have hdo:d∉old:=by
  rcases hold with⟨rfl,_⟩|⟨id,m1,rfl,ho,_⟩
  ·simp
  ·simp only[List.mem_singleton];intro e;subst e;rw[hd]at ho;cases ho
 have holdo:∀i∈old,o i≠none:=by
  rcases hold with⟨rfl,_⟩|⟨id,m1,rfl,ho,_⟩
  ·simp
  ·simp[ho]
 have hlu:∀i,luO ((d,some (.arr (n+m) sz (λi=>bif Nat.blt i n then get1 i else get2 (i-n)) e))::old.map λi=>(i,some .dead)) o i=
   if i=d then some (.arr (n+m) sz (λi=>bif Nat.blt i n then get1 i else get2 (i-n)) e)else if i∈old then some .dead else o i:=by
  intro i;simp only[luO];split
  ·rfl
  ·rcases hold with⟨rfl,_⟩|⟨id,m1,rfl,ho,_⟩
   ·simp[luO]
   ·simp[luO]
 have hal:∀i,o i≠none->luO ((d,some (.arr (n+m) sz (λi=>bif Nat.blt i n then get1 i else get2 (i-n)) e))::old.map λi=>(i,some .dead)) o i≠none:=by
  intro i hi;rw[hlu];split
  ·simp
  ·split
   ·simp
   ·exact hi
 have hbo:∀g,base=some g->∀id ob,o id=some ob->ob.live=true->(ρ id).1=some g->id∈old:=by
  intro g hg id ob hob hl hr;rcases hold with⟨_,hbn,_⟩|⟨id1,m1,rfl,ho1,_,_,hb1⟩
  ·rw[hbn]at hg;cases hg
  ·simp[h.inj id id1 ob _ g hob hl ho1 rfl hr (by rw[hb1];exact hg)]
 refine h.upd (λi=>i=d\/i∈old) hos htape hout hsize (λb hb hne=>hblk b hb λhbb=>?_) (λi hi=>Loc.set_ne _ _ λe=>hi (by rw[e];exact hd)) (λi hi=>?_) hal (λi ob hi hob=>?_) (λi ob hi hob=>?_);rotate_right
 ·rcases hi with hi|hi
  ·rw[hi,hd]at hob;cases hob
  ·rcases hold with⟨rfl,_⟩|⟨id1,m1,rfl,ho1,_,_,_⟩
   ·cases hi
   ·rw[List.mem_singleton.1 hi,ho1]at hob;cases hob;rfl
 ·rcases hold with⟨_,hbn,_⟩|⟨id1,m1,rfl,ho1,_,_,hb1⟩
  ·rw[hbn]at hbb;cases hbb
  ·exact hne id1 _ (.inr η) ho1 rfl (by rw[hb1];exact hbb)
 ·rw[hlu,if_neg (λe=>hi (.inl e)),if_neg (λe=>hi (.inr e))]
 ·rw[hlu]at hob;by_cases hid:i=d
  ·rw[if_pos hid]at hob;subst hid;simp only[Option.some.injEq]at hob;subst hob;have hcm:∀{c:AV} {x:Value},Con ρ Im w.heap c x->(∀k,Names k c->o k≠none)->Con (ρ.set i (base',cap')) Im w'.heap c x:=λhc hk=>
    (hc.mono (fun b hb=>hb) fun b hb=>hblk b (h.imlt b hb) fun hbb=>by
     rcases hold with⟨_,hbn,_⟩|⟨id1,m1,rfl,ho1,_,_,hb1⟩
     ·rw[hbn]at hbb;cases hbb
     ·exact(h.own id1 _ b ho1 rfl (by rw[hb1];exact hbb)).1 hb).reloc λk hn=>Loc.set_ne _ _ λe=>hk k hn (by rw[e];exact hd)
   have hn1:∀i,i<n->∀c∈get1 i,∀k,Names k c->o k≠none:=by
    intro i hi c hc k hk;rcases hold with⟨_,_,hn0⟩|⟨id1,m1,rfl,ho1,hle,_,_⟩
    ·exact absurd hk (hn0 i hi c hc k)
    ·exact h.ocl id1 _ ho1 k (.arr _ _ _ _ i c ω hc hk)
   have hblt:∀i',(bif Nat.blt i' n then get1 i' else get2 (i'-n))=if i'<n then get1 i' else get2 (i'-n):=by
    intro i';by_cases hlt:i'<n
    ·rw[if_pos hlt,show Nat.blt i' n=true by simpa[Nat.blt_eq]using hlt];rfl
    ·rw[if_neg hlt];cases hbl:Nat.blt i' n with
     |true=>exact absurd (by simpa[Nat.blt_eq]using hbl) hlt
     |false=>rfl
   refine⟨?_,λk hk=>?_,λ_ b hbb=>?_,λ_ b hbb id' ob' hob' hl' hb'=>?_⟩
   ·rcases hb with⟨rfl,hz,rfl⟩|⟨g',cur',rfl,hg',hnc,hcm',hcs,hc1,hc2,_⟩
    ·rw[hz];exact .arr0 _ _ _ (by rw[Loc.set_same])
    ·refine .arr _ _ _ _ g' cur' (by rw[Loc.set_same]) hg' (by rw[Loc.set_same];exact hnc) (by rw[Loc.set_same];exact hcm') (by rw[Loc.set_same];exact hcs) hbd (λi' hi'=>?_) λi' j c x hi' hcj hxj=>?_
     ·simp only[hblt];split
      ·rename_i hlt;exact hl1 i' hlt
      ·exact hl2 _ ω
     ·simp only[hblt]at hcj;split at hcj
      ·rename_i hlt;have hjl:j<sz:=by have:=(List.getElem?_eq_some_iff.1 hcj).1;have:=hl1 i' hlt;omega
       have hmul:(i'+1)*sz<=n*sz:=Nat.mul_le_mul_right _ hlt;rw[Nat.succ_mul]at hmul;rw[hc1 _ ω]at hxj;exact hcm (hcur i' j c x hlt hcj hxj) (hn1 i' hlt c (List.mem_of_getElem? hcj))
      ·rename_i hlt;have hlt2:i'-n<m:=ω;have hjl:j<sz:=by have:=(List.getElem?_eq_some_iff.1 hcj).1;have:=hl2 _ hlt2;omega
       have hmul:(i'-n+1)*sz<=m*sz:=Nat.mul_le_mul_right _ hlt2;rw[Nat.succ_mul]at hmul;have e1:i'*sz+j=n*sz+((i'-n)*sz+j):=by
        have:i'*sz=n*sz+(i'-n)*sz:=by rw[<-Nat.add_mul];congr 1;omega
        omega
       rw[e1,hc2 _ ω]at hxj;exact hcm (hnew _ j c x hlt2 hcj hxj) (hn2 _ hlt2 c (List.mem_of_getElem? hcj))
   ·cases hk with
    |arr _ _ _ _ i' c hi' hm hk=>
     simp only[hblt]at hm;split at hm
     ·rename_i hlt;exact hal k (hn1 i' hlt c hm k hk)
     ·exact hal k (hn2 _ ω c hm k hk)
   ·rw[Loc.set_same]at hbb;rcases hb with⟨rfl,_,_⟩|⟨g',cur',rfl,hg',_,_,_,_,_,hor⟩
    ·cases hbb
    ·simp only[Option.some.injEq]at hbb;subst hbb;have hlt':=(Array.getElem?_eq_some_iff.1 hg').1;rcases hor with hor|hor
     ·rcases hold with⟨_,hbn,_⟩|⟨id1,m1,rfl,ho1,_,hp,hb1⟩
      ·rw[hbn]at hor;cases hor
      ·obtain⟨h1,h2,h3⟩:=h.own id1 _ g' ho1 rfl (by rw[hb1];exact hor);exact⟨h1,hlt',.inl (h3.resolve_right hp)⟩
     ·subst hor;exact⟨λhi=>by have:=h.imlt _ hi;omega,hlt',.inl h.size⟩
   ·rw[Loc.set_same]at hbb;by_cases he:id'=i
    ·exact he
    ·exfalso;rw[hlu,if_neg he]at hob';split at hob'
     ·simp only[Option.some.injEq]at hob';subst hob';cases hl'
     ·rename_i hni;rw[Loc.set_ne _ _ he]at hb';rcases hb with⟨rfl,_,_⟩|⟨g',cur',rfl,hg',_,_,_,_,_,hor⟩
      ·cases hbb
      ·simp only[Option.some.injEq]at hbb;subst hbb;rcases hor with hor|hor
       ·exact hni (hbo _ hor id' ob' hob' hl' hb')
       ·subst hor;have:=(h.own id' ob' _ hob' hl' hb').2.1;omega
  ·rw[if_neg hid]at hob;rcases hi with hi|hi
   ·exact absurd hi hid
   ·rw[if_pos hi]at hob;simp only[Option.some.injEq]at hob;subst hob;exact⟨.dead,λk hk=>(by cases hk),λhl=>(by cases hl),λhl=>(by cases hl)⟩
def rB(o:Xd)(v:AV)(sz:Nat)(k:Nat->(Nat->List AV)->List Nat->Prop):Prop:=match v with
 |.isl n sz' get=>ck (Nat.beq sz' sz) (k n get [])
 |.osl id n=>match o id with
  |some (.arr m sz' get _)=>ck (Nat.beq sz' sz) (Side (n<=m) (k n get [id]))
  |_=>False
 |.nils=>k 0 (λ_=>[]) []
 |_=>False
theorem j1{o:Xd}{v:AV}{sz:Nat}{k:Nat->(Nat->List AV)->List Nat->Prop}(h:rB o v sz k):∃n get ro,k n get ro/\Src o v n sz get ro:=by
 unfold rB at h;split at h
 ·obtain⟨hs,hk⟩:=aY h;have:=Nat.eq_of_beq_eq_true hs;subst this;exact⟨_,_,_,hk,.isl _ _ _⟩
 ·split at h
  ·rename_i id n m sz' get e ho;obtain⟨hs,hle,hk⟩:=aY h;have:=Nat.eq_of_beq_eq_true hs;subst this;exact⟨_,_,_,hk,.osl _ _ _ _ _ _ ho hle⟩
  ·exact h.elim
 ·exact⟨_,_,_,h,.nils _⟩
 ·exact h.elim
def pQ(b n m:Nat)(get:Nat->List AV):Prop:=(n+m<=1099511627776\/b<=8/\n+m<=17592186044416)/\∀i,i<m->fD (get i)=true
theorem zx{bytes n m:Nat}{get:Nat->List AV}(h2:Nat.ble bytes 128=true)(h:pQ bytes n m get):(n+m)*bytes<=140737488355328/\n+m<=dZ:=by
 obtain⟨h1,_⟩:=h;have h2:=Nat.le_of_ble_eq_true h2;rcases h1 with h1|⟨h3,h1⟩
 ·exact⟨Nat.le_trans (Nat.mul_le_mul h1 h2) ω,by simp only[dZ];omega⟩
 ·exact⟨Nat.le_trans (Nat.mul_le_mul h1 h3) ω,by simp only[dZ];omega⟩
def lH(T:Tab)(ti:TI)(pid:List Nat)(o:Xd)(d:Nat)(dst src:AV)(k:List Nat->Nat->Xb->Prop):Prop:=match ti.tk with
 |.slice e=>match luT T e with
  |some te=>match dst with
   |.nils=>ck (Nat.ble te.bytes 128) (rB o src te.size λm get2 ro=>Side (pQ te.bytes 0 m get2) (k (d::ro) m [(d,some (.arr m te.size get2 e))]))
   |.emp=>ck (Nat.ble te.bytes 128) (rB o src te.size λm get2 ro=>Side (0<m/\pQ te.bytes 0 m get2) (k (d::ro) m [(d,some (.arr m te.size get2 e))]))
   |.icap n sz1 get1=>ck (Nat.ble te.bytes 128&&Nat.beq sz1 te.size) (rB o src te.size λm get2 ro=>Side (0<m/\pQ te.bytes n m get2) (k (d::ro) (n+m) [(d,some (.arr (n+m) te.size (λi=>bif Nat.blt i n then get1 i else get2 (i-n)) e))]))
   |.osl id n=>match o id with
    | some (.arr m1 sz1 get1 e1)=>ck (Nat.ble te.bytes 128 && (Nat.beq sz1 te.size && (Nat.beq e1 e && !pid.elem id))) (rB o src te.size fun m get2 ro=>Side (n<=m1/\pQ te.bytes n m get2)
      (k (d::id::ro) (n+m) [(d,some (.arr (n+m) te.size (λi=>bif Nat.blt i n then get1 i else get2 (i-n)) e)),(id,some .dead)]))
    |_=>False
   |_=>False
  |none=>False
 |_=>False
theorem rC(hT:fB P T){op:Oper}{t:Nat}{x y:Operand}(ho:op.op=.call { callee:=.builtin .append,args:=#[x,y],argTypes:=#[t,t] }){d:Nat}{A:St}(hg:gOk ops op A.s)(hd:ca X.nt op)(hid:A.o d=none)
  {ti:TI} (hti:TiOk P t ti) {v u:AV} (hv:opdV A.s x=some v) (hu:opdV A.s y=some u) {k:List Nat->Nat->Xb->Prop} (h:lH T ti X.pid A.o d v u k) :
  ∃ro n wo,k ro n wo/\bt P X ops op A.s A.o (effV ops op (opdS x++opdS y) ro (.osl d n) wo):=by
 unfold lH at h;split at h
 ·rename_i e hk;have hund:=hti.slice hk;split at h
  ·rename_i te hte;have hte:=hT e te hte
   --the core, for both
   have core:∀(old:List Nat) (n m:Nat) (get1 get2:Nat->List AV) (ro:List Nat),Nat.ble te.bytes 128=true->Src A.o u m te.size get2 ro->pQ te.bytes n m get2->
     ((old=[]/\v=.nils/\n=0)\/(old=[]/\v=.emp/\n=0/\0<m)\/(old=[]/\v=.icap n te.size get1/\0<m)\/∃id m1,old=[id]/\v=.osl id n/\A.o id=some (.arr m1 te.size get1 e)/\n<=m1/\id∉X.pid)->
     bt P X ops op A.s A.o (effV ops op (opdS x++opdS y) (d::old++ro) (.osl d (n+m)) ((d,some (.arr (n+m) te.size (λi=>bif Nat.blt i n then get1 i else get2 (i-n)) e))::old.map λi=>(i,some .dead))):=by
    intro old n m get1 get2 ro hble hsrc happ hold;obtain⟨hby,hmx⟩:=zx hble happ;refine cA hg hd λs' o' hs hoo ρ Im a w hr=>?_;have hv':opdV s' x=some v:=(az λk hk=>hs k (by simp[hk])).trans hv;have hu':opdV s' y=some u:=(az λk hk=>hs k (by simp[hk])).trans hu;have hdo:o' d=none:=(hoo d η).trans hid;have hsrc':Src o' u m te.size get2 ro:=hsrc.congr λi hi=>hoo i (by simp[hi]);obtain⟨hms,hread,hnm⟩:=hsrc'.read hr.toMem (hr.opd hu')
    --what is appended
    have hnews:∃news:List Value,news.length=m*te.size/\((a.eval y=.slice none 0 0/\m=0)\/∃ad c,a.eval y=.slice (some ad) m c/\∀j z,news[j]? =some z->w.cell? (ad.add j)=some z)/\
      (∀i,i<m->(get2 i).length=te.size)/\(∀(i j:Nat) (c:AV) (z:Value),i<m->(get2 i)[j]? =some c->news[i*te.size+j]? =some z->Con ρ Im w.heap c z):=by
     rcases hread with⟨e1,hm0⟩|⟨b,off,cap,arr,T',fr,e1,hb,hfit,hlen,hc⟩
     ·subst hm0;obtain⟨p,e1⟩:=e1;cases p with
      |none=>exact⟨[],by simp,.inl ⟨e1,rfl⟩,λi hi=>ω,λi j c z hi=>ω⟩
      |some q=>exact⟨[],by simp,.inr ⟨q,0,e1,λj z hz=>by simp at hz⟩,λi hi=>ω,λi j c z hi=>ω⟩
     ·refine⟨(arr.toList.drop off).take (m*te.size),by simp;omega,.inr ⟨_,cap,e1,λj z hz=>?_⟩,hlen,Ba hfit hc⟩;rw[Addr.add_lit,cell_of_row w b _ arr T' fr hb];rw[List.getElem?_take]at hz;split at hz
      ·simpa using hz
      ·cases hz
    obtain⟨news,hnl,hsv,hl2,hnc⟩:=hnews;have hone:∀z∈news,z.oneCell'=true:=by
     intro z hz;obtain⟨p,hp,rfl⟩:=List.mem_iff_getElem.1 hz;have hsz0:0<te.size:=by
      rcases Nat.eq_zero_or_pos te.size with h0|h0
      ·rw[h0,Nat.mul_zero]at hnl;omega
      ·exact h0
     have hq:p/te.size<m:=by
      rw[Nat.div_lt_iff_lt_mul hsz0];omega
     have hr':p%te.size<te.size:=Nat.mod_lt _ hsz0;have hlen:=hl2 _ hq;have e2:p/te.size*te.size+p%te.size=p:=by rw[Nat.mul_comm];exact Nat.div_add_mod p te.size
     have hcc:=hnc (p/te.size) (p%te.size) ((get2 (p/te.size))[p%te.size]'ω) (news[p]) hq η (by rw[e2];simp);exact hcc.oneCell (jQ (happ.2 _ hq) _ η)
    --what it is appended to
    have hall:∃(base:Option Nat) (cur:Array Value) (base':Option Nat) (cap':Nat) (w':World),(Builtin.append_ #[t,t] op.type #[a.eval x,a.eval y]).run P w=.ok (.slice (base'.map λb=>⟨b,0,none⟩) (n+m) cap') w'/\
      ((base'=none/\n+m=0/\cap'=0)\/∃(g':Nat) (cur':Array Value),base'=some g'/\w'.heap[g']? =some (.cells cur' e (0,0))/\n+m<=cap'/\cap'<=maxLen/\cur'.size=cap'*te.size/\
       (∀j,j<n*te.size->cur'[j]? =cur[j]?)/\(∀j,j<m*te.size->cur'[n*te.size+j]? =news[j]?)/\(base=some g'\/g'=w.heap.size))/\
      (w'.os=w.os/\w'.tape=w.tape/\w'.output=w.output/\w.heap.size<=w'.heap.size/\∀b,b<w.heap.size->base≠some b->w'.heap[b]? =w.heap[b]?)/\
      (∀(i j:Nat) (c:AV) (z:Value),i<n->(get1 i)[j]? =some c->cur[i*te.size+j]? =some z->Con ρ Im w.heap c z)/\(∀i,i<n->(get1 i).length=te.size)/\
      ((old=[]/\base=none/\∀i,i<n->∀c∈get1 i,∀k,¬Names k c)\/∃id m1,old=[id]/\o' id=some (.arr m1 te.size get1 e)/\n<=m1/\id∉X.pid/\(ρ id).1=base):=by
     suffices fin:(∃(base:Option Nat) (cap:Nat) (cur:Array Value),a.eval x=.slice (base.map fun b=>⟨b,0,none⟩) n cap/\((base=none/\n=0/\cap=0)\/∃g,base=some g/\w.heap[g]? =some (.cells cur e (0,0))/\n<=cap/\cap<=maxLen/\cur.size=cap*te.size)/\
       (∀(i j:Nat) (c:AV) (z:Value),i<n->(get1 i)[j]? =some c->cur[i*te.size+j]? =some z->Con ρ Im w.heap c z)/\(∀i,i<n->(get1 i).length=te.size)/\
       ((old=[]/\base=none/\∀i,i<n->∀c∈get1 i,∀k,¬Names k c)\/∃id m1,old=[id]/\o' id=some (.arr m1 te.size get1 e)/\n<=m1/\id∉X.pid/\(ρ id).1=base))\/(old=[]/\v=.emp/\n=0/\0<m)\/(old=[]/\v=.icap n te.size get1/\0<m) by
      rcases fin with⟨base,cap,cur,he,hdd,hc1,hl1,hold'⟩|⟨rfl,rfl,rfl,hpos⟩|⟨rfl,rfl,hpos⟩
      ·obtain⟨base',cap',w',hrun,hres,hrest⟩:=pN hund hte op.type base n cap cur hdd (a.eval y) m news hnl hsv hone hby hmx;rw[<-he]at hrun;exact⟨base,cur,base',cap',w',hrun,hres,hrest,hc1,hl1,hold'⟩
      ·obtain⟨p,hp⟩:=(hr.opd hv').emp_inv;obtain⟨base',cap',w',hrun,hres,hrest⟩:=pO hund hte op.type p #[] (a.eval y) m news hnl hsv (by simpa using hby) ω hpos;rw[<-hp]at hrun;exact⟨none,#[],base',cap',w',hrun,hres,hrest,λi j c z hi=>ω,λi hi=>ω,.inl ⟨rfl,rfl,λi hi=>ω⟩⟩
      ·obtain⟨b,off,arr,T',fr,hp,him,hb,hsz,hn,hbd,hfit,hci⟩:=(hr.opd hv').icap_inv;obtain ⟨base',cap',w',hrun,hres,hrest⟩:=pP hund hte op.type ⟨b,off,none⟩ n ((arr.toList.drop off).take (n * te.size)) (by simp;omega) (fun j z hz=>by
        rw[Addr.add_lit,cell_of_row w b _ arr T' fr hb];rw[List.getElem?_take]at hz;split at hz
        ·simpa using hz
        ·cases hz) (a.eval y) m news hnl hsv hby hmx hpos
       rw[<-hp]at hrun;refine⟨none,((arr.toList.drop off).take (n*te.size)).toArray,base',cap',w',hrun,hres,hrest,λi j c z hi h1 h2=>Ba hfit (λi j c z h1 h2 h3=>.imm _ _ (hci i j c z h1 h2 h3)) i j c z hi h1 (by simpa using h2),hsz,.inl ⟨rfl,rfl,λi hi c hc k hk=>?_⟩⟩;obtain⟨j,hj,rfl⟩:=List.mem_iff_getElem.1 hc;have hle:(i+1)*te.size<=n*te.size:=Nat.mul_le_mul_right _ hi;have hadd:(i+1)*te.size=i*te.size+te.size:=Nat.succ_mul i te.size;have hlen:=hsz i hi;exact(hci i j _ (arr[off+i*te.size+j]'ω) hi η η).noNames k hk
     rcases hold with⟨rfl,rfl,rfl⟩|⟨rfl,rfl,rfl,hpos⟩|⟨rfl,rfl,hpos⟩|⟨id,m1,rfl,rfl,hob,hle,hp⟩
     ·exact .inl ⟨none,0,#[],(hr.opd hv').nils_inv,.inl ⟨rfl,rfl,rfl⟩,λi j c z hi=>ω,λi hi=>ω,.inl ⟨rfl,rfl,λi hi=>ω⟩⟩
     ·exact .inr (.inl ⟨rfl,rfl,rfl,hpos⟩)
     ·exact .inr (.inr ⟨rfl,rfl,hpos⟩)
     ·have hob':o' id=some (.arr m1 te.size get1 e):=(hoo id η).trans hob;obtain⟨hbd,hne,hnc,he⟩:=(hr.opd hv').osl_inv;have hobc:=hr.objs id _ hob';cases hobc with
      |arr0 _ _ _ hρ=>
       have:n=0:=ω;subst this;exact .inl ⟨none,0,#[],by simp[he,hρ],.inl ⟨rfl,rfl,rfl⟩,λi j c z hi=>ω,λi hi=>ω,.inr ⟨id,0,rfl,hob',hle,hp,by rw[hρ]⟩⟩
      |arr _ _ _ _ b xs hρ hh hn hcap hxs hbd' hsz hc=>
       exact .inl ⟨some b,(ρ id).2,xs,by rw[he,hρ],.inr ⟨b,rfl,hh,hnc,hcap,hxs⟩,λi j c z hi h1 h2=>hc i j c z ω h1 h2,λi hi=>hsz i ω,.inr ⟨id,m1,rfl,hob',hle,hp,hρ⟩⟩
    obtain⟨base,cur,base',cap',w',hrun,hres,⟨hos,htape,hout,hsize,hblk⟩,hc1,hl1,hold'⟩:=hall;have hrel:=hr.append hdo hold' hc1 hl1 hnc hl2 hnm hmx hres hos htape hout hsize hblk;have hex:(execOp a.eval op).run P w=.ok (.value (.slice (base'.map λb=>⟨b,0,none⟩) (n+m) cap')) w':=by
     simp[execOp,ho,resolve,invoke,builtin,hrun]
    unfold Oper.wp;rw[hex];refine⟨_,_,Im,rfl,hrel,?_,λi hi=>?_⟩
    ·have:=Con.osl (ρ:=ρ.set d (base',cap')) (Im:=Im) (H:=w'.heap) d (n + m) hmx (fun hne=>by
      rw[Loc.set_same];rcases hres with⟨_,h0,_⟩|⟨g',_,rfl,_⟩
      ·exact absurd h0 hne
      ·simp) (by
      rw[Loc.set_same];rcases hres with⟨_,h0,h1⟩|⟨g',_,rfl,_,hle,_⟩
      ·show n+m<=cap';omega
      ·exact hle)
     rw[Loc.set_same]at this;exact this
    ·cases hi;simp[luO]
   split at h
   ·obtain⟨hble,h⟩:=aY h;obtain⟨m,get2,ro,⟨happ,hk⟩,hsrc⟩:=j1 h;have:=core [] 0 m (λ_=>[]) get2 ro hble hsrc happ (.inl ⟨rfl,rfl,rfl⟩);have e1:(λi=>bif Nat.blt i 0 then([]:List AV)else get2 (i-0))=get2:=by
     funext i;have:Nat.blt i 0=false:=by cases hb:Nat.blt i 0 with
      |true=>simp[Nat.blt_eq]at hb
      |false=>rfl
     rw[this];simp
    simp only[e1,Nat.zero_add,List.map_nil]at this;exact⟨_,_,_,hk,this⟩
   ·obtain⟨hble,h⟩:=aY h;obtain⟨m,get2,ro,⟨⟨hpos,happ⟩,hk⟩,hsrc⟩:=j1 h;have:=core [] 0 m (λ_=>[]) get2 ro hble hsrc happ (.inr (.inl ⟨rfl,rfl,rfl,hpos⟩));have e1:(λi=>bif Nat.blt i 0 then([]:List AV)else get2 (i-0))=get2:=by
     funext i;have:Nat.blt i 0=false:=by cases hb:Nat.blt i 0 with
      |true=>simp[Nat.blt_eq]at hb
      |false=>rfl
     rw[this];simp
    simp only[e1,Nat.zero_add,List.map_nil]at this;exact⟨_,_,_,hk,this⟩
   ·rename_i n sz1 get1;obtain⟨hb,h5⟩:=aY h;simp only[Bool.and_eq_true]at hb;obtain⟨hble,h2⟩:=hb;have h2:=Nat.eq_of_beq_eq_true h2;subst h2;obtain⟨m,get2,ro,⟨⟨hpos,happ⟩,hk⟩,hsrc⟩:=j1 h5;have:=core [] n m get1 get2 ro hble hsrc happ (.inr (.inr (.inl ⟨rfl,rfl,hpos⟩)));exact⟨_,_,_,hk,this⟩
   ·split at h
    ·rename_i id n _ m1 sz1 get1 e1 hob;obtain⟨hb,h⟩:=aY h;simp only[Bool.and_eq_true,Bool.not_eq_true']at hb;obtain⟨hble,h2,h3,h4⟩:=hb;obtain⟨m,get2,ro,⟨⟨h1,happ⟩,hk⟩,hsrc⟩:=j1 h;have h2:=Nat.eq_of_beq_eq_true h2;have h3:=Nat.eq_of_beq_eq_true h3;subst h2;subst h3;have hp:id∉X.pid:=by
      intro hm;rw[List.elem_eq_true_of_mem hm]at h4;cases h4
     have:=core [id] n m get1 get2 ro hble hsrc happ (.inr (.inr (.inr ⟨id,m1,rfl,rfl,hob,h1,hp⟩)));exact⟨_,_,_,hk,this⟩
    ·exact h.elim
   ·exact h.elim
  ·exact h.elim
 ·exact h.elim
end
end Go.Nc