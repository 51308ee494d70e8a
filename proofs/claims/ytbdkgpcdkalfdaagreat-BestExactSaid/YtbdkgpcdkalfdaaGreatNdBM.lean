/- Parts. -/
import Derived.Test.YtbdkgpcdkalfdaaGreatNdBB
import Derived.Laws.OwnMore
namespace Go.Nc
theorem ObjCon.move{ρ f:Loc}{Im I:Nat->Prop}{H p:eZ}{id:Nat}{ob:LObj}(h:ObjCon ρ Im H id ob)(w:∀b,Im b->I b)(u:∀b,Im b->p[b]? =H[b]?)
  (hb:∀b,(ρ id).1=some b->p[b]? =H[b]?) (a:f id=ρ id) (d:∀i,NamesO i ob->f i=ρ i):ObjCon f I p id ob:=by
 have C:∀{c:AV} {x:Value},Con ρ Im H c x->(∀i,Names i c->f i=ρ i)->Con f I p c x:=λg y=>(g.mono w u).reloc y;cases h with
 |dead=>exact .dead
 |box cells b xs T h1 h2 h3=>exact .box cells b xs T (by rw[a];exact h1) ((hb b h1).trans h2) ⟨h3.1,λi c x g o=>C (h3.2 i c x g o) λj m=>d j (.box _ c (List.mem_of_getElem? g) m)⟩
 |arr0 sz get T h1=>exact .arr0 sz get T (by rw[a];exact h1)
 |arr n sz get T b xs h1 h2 h3 h4 h5 h6 h7 h8=>
  exact .arr n sz get T b xs (by rw[a];exact h1) ((hb b h1).trans h2) (by rw[a];exact h3) (by rw[a];exact h4) (by rw[a];exact h5) h6 h7
   λi j c x t g o=>C (h8 i j c x t g o) λk l=>d k (.arr _ _ _ _ i c t (List.mem_of_getElem? g) l)
 |map kvs b es clock h1 h2 h3 h4=>
  exact .map kvs b es clock (by rw[a];exact h1) ((hb b h1).trans h2) h3 λi k v e l s=>
   ⟨C (h4 i k v e l s).1 λj m=>d j (.mapK _ k v (List.mem_of_getElem? l) m),C (h4 i k v e l s).2 λj m=>d j (.mapV _ k v (List.mem_of_getElem? l) m)⟩
 |lrec st pe ks cs ps assign body nt b r h1 h2 h3 h4=>
  exact .lrec st pe ks cs ps assign body nt b r (by rw[a];exact h1) ((hb b h1).trans h2) h3 λi k c l g=>
   let⟨x,o,q⟩:=h4 i k c l g;⟨x,o,C q λj m=>d j (.lrec _ _ _ _ _ _ _ _ c (List.mem_of_getElem? g) m)⟩
theorem ObjCon.noSys{ρ:Loc}{Im:Nat->Prop}{H:eZ}{id:Nat}{ob:LObj}(h:ObjCon ρ Im H id ob)(a:ob.live=true){b:Nat}(hb:(ρ id).1=some b) :
  (∀d,H[b]? ≠some (.deferred d))/\(ob.isRec=false->∀r,H[b]? ≠some (.loop r)):=by
 cases h with
 |dead=>cases a
 |box _ b2 _ _ h1 h2=>rw[hb]at h1;cases h1;rw[h2];exact⟨λ_ e=>(by cases e),λ_ _ e=>(by cases e)⟩
 |arr0 _ _ _ h1=>rw[h1]at hb;cases hb
 |arr _ _ _ _ b2 _ h1 h2=>rw[hb]at h1;cases h1;rw[h2];exact⟨λ_ e=>(by cases e),λ_ _ e=>(by cases e)⟩
 |map _ b2 _ _ h1 h2=>rw[hb]at h1;cases h1;rw[h2];exact⟨λ_ e=>(by cases e),λ_ _ e=>(by cases e)⟩
 |lrec _ _ _ _ _ _ _ _ b2 r h1 h2=>rw[hb]at h1;cases h1;rw[h2];exact⟨λ_ e=>(by cases e),λe=>(by cases e)⟩
structure Fresh(X:Frm)(ρ':Loc)(Im:Nat->Prop)(o':Xd)(w':World)(id:Nat)(ob:LObj):Prop where
 con:ObjCon ρ' Im w'.heap id ob
 names:∀i,NamesO i ob->o' i≠none
 own:ob.live=true->∀b,(ρ' id).1=some b->¬Im b/\b<w'.heap.size/\(X.w0.heap.size<=b\/id∈X.pid)
 inj:ob.live=true->∀b,(ρ' id).1=some b->∀id' ob',o' id'=some ob'->ob'.live=true->(ρ' id').1=some b->id'=id
theorem RelAt.upd{X:Frm}{ρ E:Loc}{Im:Nat->Prop}{s:Nat->Option AV}{o o':Xd}{a:Act}{w W:World}(h:RelAt X ρ Im s o a w)(D:Nat->Prop)
  (S:W.os=w.os) (B:W.tape=w.tape) (L:W.output=w.output) (g:w.heap.size<=W.heap.size)
  (e:∀b,b<w.heap.size->(∀id ob,D id->o id=some ob->ob.live=true->(ρ id).1≠some b)->W.heap[b]? =w.heap[b]?)
  (j:∀id,o id≠none->E id=ρ id) (ho:∀id,¬D id->o' id=o id) (y:∀id,o id≠none->o' id≠none)
  (q:∀id ob,D id->o' id=some ob->Fresh X E Im o' W id ob) (N:∀id ob,D id->o id=some ob->ob.isRec=false):RelAt X E Im s o' a W:=by
 have K:∀{b:Nat} {x:Obj},w.heap[b]? =some x->b<w.heap.size:=λh=>(Array.getElem?_eq_some_iff.1 h).1;have G:∀b,Im b->W.heap[b]? =w.heap[b]?:=λb hb=>e b (h.imlt b hb) λid ob _ H d t=>(h.own id ob b H d t).1 hb;have A:∀id ob,¬D id->o id=some ob->ob.live=true->∀b,(ρ id).1=some b->W.heap[b]? =w.heap[b]?:=λid ob z H d b hb=>
  e b (h.own id ob b H d hb).2.1 λI O f c p m=>z (by rw[h.inj id I ob O b H d c p hb m];exact f)
 have C:∀id ob,¬D id->o' id=some ob->o id=some ob:=λid ob z H=>by rw[<-ho id z];exact H
 refine
  {objs:=fun id ob H=>?_,own:=fun id ob b H d hb=>?_,inj:=fun id I ob O b H d c p hb m=>?_,ocl:=fun id ob H i u=>?_,imlt:=fun b hb=>Nat.lt_of_lt_of_le (h.imlt b hb) g,im0:=h.im0,imf:=h.imf,
   os:=S.trans h.os,tape:=B.trans h.tape,output:=L.trans h.output,size:=Nat.le_trans h.size g,frame:=λb hb Q=>?_,pin:=λid Q=>?_,slots:=λk v R=>?_,scl:=λk v R i u=>y i (h.scl k v R i u),
   defers:=h.defers.mono (λD q=>e D (K q) λid ob f H d t=>((h.objs id ob H).noSys d t).1 _ q) (λ_ _ h=>h),nt:=h.nt,
   lrc:=λl r d=>by
    obtain⟨st,pe,n⟩:=h.lrc l r d;exact⟨st,pe,(e l (K n) λid ob f H d t=>((h.objs id ob H).noSys d t).2 (N id ob f H) _ n).trans n⟩,
   rnd:=h.rnd }
 .by_cases f:D id
  .exact(q id ob f H).con
  .have H:=C id ob f H;by_cases d:ob.live=true
   .exact(h.objs id ob H).move (λb hb=>hb) G (A id ob f H d) (j id (by rw[H];simp)) λi u=>j i (h.ocl id ob H i u)
   .cases ob with
    |dead=>exact .dead
    |_=>simp[LObj.live]at d
 .by_cases f:D id
  .exact(q id ob f H).own d b hb
  .have H:=C id ob f H;rw[j id (by rw[H];simp)]at hb;obtain⟨n,P,V⟩:=h.own id ob b H d hb;exact⟨n,Nat.lt_of_lt_of_le P g,V⟩
 .by_cases f:D id
  .exact((q id ob f H).inj d b hb I O c p m).symm
  .by_cases F:D I
   .exact(q I O F c).inj p b m id ob H d hb
   .have H:=C id ob f H;have c:=C I O F c;rw[j id (by rw[H];simp)]at hb;rw[j I (by rw[c];simp)]at m;exact h.inj id I ob O b H d c p hb m
 .by_cases f:D id
  .exact(q id ob f H).names i u
  .exact y i (h.ocl id ob (C id ob f H) i u)
 .rw[e b (Nat.lt_of_lt_of_le hb h.size) λid ob _ H d t=>?_]
  .exact h.frame b hb Q
  .rcases(h.own id ob b H d t).2.2 with n|n
   .omega
   .exact Q id n (by rw[<-(h.pin id n).1];exact t)
 .obtain⟨n,P⟩:=h.pin id Q;exact⟨by rw[j id P];exact n,y id P⟩
 .obtain⟨x,hx,hc⟩:=h.slots k v R;exact⟨x,hx,(hc.mono (λb hb=>hb) G).reloc λi u=>j i (h.scl k v R i u)⟩
def Loc.set(ρ:Loc)(id:Nat)(p:Option Nat×Nat):Loc:=λi=>if i=id then p else ρ i
theorem Loc.set_same(ρ:Loc)(id:Nat)(p:Option Nat×Nat):ρ.set id p id=p:=by simp[Loc.set]
theorem Loc.set_ne(ρ:Loc){id i:Nat}(p:Option Nat×Nat)(h:i≠id):ρ.set id p i=ρ i:=by simp[Loc.set,h]
section
variable {P:Program} {X:Frm} {ops:Array Oper} {T:kb}
theorem RelAt.new{ρ:Loc}{Im:Nat->Prop}{s:Nat->Option AV}{o:Xd}{a:Act}{w:World}(h:RelAt X ρ Im s o a w){id:Nat}(c:o id=none)(O:Obj)(cap:Nat)(ob:LObj)
  (l:ObjCon (ρ.set id (some w.heap.size,cap)) Im (w.alloc O).heap id ob) (u:∀i,NamesO i ob->o i≠none) :
  RelAt X (ρ.set id (some w.heap.size,cap)) Im s (gw [(id,some ob)] o) a (w.alloc O):=by
 have d:∀i,i≠id->gw [(id,some ob)] o i=o i:=λi H=>by simp[gw,H]
 refine h.upd (λi=>i=id) rfl rfl rfl ν (λb hb _=>heap_alloc_old w O b hb) (λi H=>Loc.set_ne _ _ (λe=>H (by rw[e];exact c))) (λi H=>d i H)
  (λi H=>by rw[d i (λe=>H (by rw[e];exact c))];exact H) (λi q H f=>?_) (λi ob H m=>by rw[H,c]at m;cases m)
 subst H;have:q=ob:=by simp[gw]at f;exact f.symm
 subst this;refine⟨l,λj t=>?_,λ_ b hb=>?_,λ_ b hb I r g p k=>?_⟩
 .rw[d j (λe=>u j t (by rw[e];exact c))];exact u j t
 .rw[Loc.set_same]at hb;simp only[Option.some.injEq]at hb;subst hb;exact⟨λH=>by have:=h.imlt _ H;omega,by simp,.inl h.size⟩
 .rw[Loc.set_same]at hb;simp only[Option.some.injEq]at hb;subst hb;by_cases n:I=i
  .exact n
  .rw[d I n]at g;rw[Loc.set_ne _ _ n]at k;have:=(h.own I r _ g p k).2.1;omega
theorem uV{o:Oper}{d:Nat}{A:St}(y:lk ops o A.s)(v:co X.nt o)(n:A.o d=none){R:List Nat}{C:List AV}
  (h:∀s',(∀k∈R,s' k=A.s k)->∀(o':Xd) ρ Im a w,RelAt X ρ Im s' o' a w->
   (∃m T,(execOp a.eval o).run P w=.ok (.value (.pointer (some ⟨w.heap.size,0,none⟩))) (w.alloc (.cells m T))/\Cons ρ Im w.heap C m)/\∀c∈C,∀i,Names i c->o' i≠none) :
  bD P X ops o A.s A.o (dj ops o R [d] (.lptr d 0) [(d,some (.box C))]):=by
 refine cT y v λs' o' E D ρ Im a w q=>?_;obtain⟨⟨m,T,l,B,u⟩,s⟩:=h s' E o' ρ Im a w q;have H:o' d=none:=(D d ν).trans n;have g:∀c∈C,∀i,Names i c->(ρ.set d (some w.heap.size,0)) i=ρ i:=λc p i f=>Loc.set_ne _ _ λe=>s c p i f (by rw[e];exact H);unfold Oper.wp;rw[l];refine⟨_,ρ.set d (some w.heap.size,0),Im,rfl,q.new H (.cells m T) 0 (.box C) ?_ (λi f=>?_),.lptr d 0 _ (by rw[Loc.set_same]),λi f=>?_⟩
 .refine .box C w.heap.size m T (by rw[Loc.set_same]) (heap_alloc_new w _) ⟨B,λi c x r t=>?_⟩;exact((u i c x r t).mono (λb hb=>hb) λb hb=>heap_alloc_old w _ b (q.imlt b hb)).reloc λj z=>g c (List.mem_of_getElem? r) j z
 .cases f with
  |box _ c p f=>exact s c p i f
 .cases f;simp[gw]
def AV.cellsL:AV->List AV
 |.agg cs=>cs
 |v=>[v]
theorem jb{ρ:Loc}{Im:Nat->Prop}{H:eZ}{v:AV}{x:Value}(h:Con ρ Im H v x)(g:v≠.junk):Cons ρ Im H v.cellsL x.cells:=by
 by_cases b:∃cs,v=.agg cs
 .obtain⟨cs,rfl⟩:=b;obtain⟨j,rfl,a⟩:=h.agg_inv;exact a
 .have e:v.cellsL=[v]:=by cases v<;>first|rfl|exact absurd ⟨_,rfl⟩ b
  have f:x.cells= #[x]:=by
   cases h with
   |imm _ _ hi=>cases hi<;>first|rfl|exact absurd rfl g|exact absurd ⟨_,rfl⟩ b
   |agg cs=>exact absurd ⟨_,rfl⟩ b
   |_=>rfl
  rw[e,f];exact ⟨rfl,fun i c y a d=>by
   cases i with
   |zero=>simp at a d;subst a;subst d;exact h
   |succ i=>simp at a⟩
def Kv(v:AV)(k:List AV->Prop):Prop:=match v with
 |.junk=>False
 |v=>k v.cellsL
theorem Cj{v:AV}{k:List AV->Prop}(h:Kv v k):v≠.junk/\k v.cellsL:=by
 cases v<;>first|exact h.elim|exact⟨by simp,h⟩
theorem AD{o:Oper}{t:Nat}{x:Operand}(p:o.op=.box t x){d:Nat}{A:St}(l:lk ops o A.s)(j:co X.nt o)(e:A.o d=none){v:AV}(r:cm A.s x=some v){k:List AV->Prop}(h:Kv v k) :
  ∃C,k C/\bD P X ops o A.s A.o (dj ops o (di x) [d] (.lptr d 0) [(d,some (.box C))]):=by
 obtain⟨m,n⟩:=Cj h;refine⟨_,n,uV l j e λs' q o' ρ Im a w g=>?_⟩;have b:cm s' x=some v:=(ay q).trans r;refine⟨⟨(a.eval x).cells,t,?_,jb (g.opd b) m⟩,λc H i f=>?_⟩
 .simp[execOp,p,Instr.box,newVar,newRow]
 .refine g.opdN b ?_;unfold AV.cellsL at H;split at H
  .exact .agg _ c H f
  .simp at H;subst H;exact f
theorem uW{o:Oper}{t:Nat}(r:o.op=.alloc t){d:Nat}{A:St}(m:lk ops o A.s)(l:co X.nt o)(f:A.o d=none){k:TI}(b:TiOk P t k) :
  bD P X ops o A.s A.o (dj ops o [] [d] (.lptr d 0) [(d,some (.box k.zero))]):=by
 refine uV m l f λs' y o' ρ Im a w v=>?_;obtain⟨i,z,n,_,_,u,e,_⟩:=b.info;have h:=b.plain;rw[List.all_eq_true]at h;refine⟨⟨z.cells,t,?_,?_,λj c x g s=>?_⟩,λc q j p=>absurd p (AV.plain_names (h c q) j)⟩
 .simp[execOp,r,Instr.alloc,zeroValue,typeInfo,n,u,newVar,newRow]
 .have:=congrArg List.length e;simpa using this
 .have H:z.cells.toList[j]? =some x:=by simpa using s
  rw[e,List.getElem?_map,g]at H;simp only[Option.map_some,Option.some.injEq]at H;subst H;exact .imm _ _ (AV.plain_con (h c (List.mem_of_getElem? g)) _ _)
end
def AV.one:AV->Bool
 |.junk|.agg _|.tup _=>false
 |_=>true
theorem Con.oneCell{ρ:Loc}{Im:Nat->Prop}{H:eZ}{v:AV}{x:Value}(h:Con ρ Im H v x)(a:v.one=true):x.oneCell'=true:=by
 cases h with
 |imm _ _ hi=>cases hi<;>first|rfl|simp[AV.one]at a
 |osub=>rfl
 |agg=>simp[AV.one]at a
 |tup=>simp[AV.one]at a
 |_=>rfl
def fU:List AV->Bool
 |[]=>true
 |c::r=>c.one&&fU r
theorem k6{l:List AV}(h:fU l=true):∀c∈l,c.one=true:=by
 induction l with
 |nil=>simp
 |cons c r ih=>
  simp only[fU,Bool.and_eq_true]at h;intro d H;rcases List.mem_cons.1 H with rfl|H
  .exact h.1
  .exact ih h.2 d H
def mg:Nat->List AV->List AV->List AV
 |_,[],cs=>cs
 |_,_,[]=>[]
 |0,v::vs,_::cs=>v::mg 0 vs cs
 |o+1,vs,c::cs=>c::mg o vs cs
theorem yP:∀(o:Nat) (V cs:List AV),o+V.length<=cs.length->mg o V cs=cs.take o++V++cs.drop (o+V.length)
 |o,[],cs,_=>by cases o<;>cases cs<;>simp[mg]
 |o,v::V,[],h=>by simp at h
 |0,v::V,c::cs,h=>by
  have:=yP 0 V cs (by simp at h⊢;omega);simp[mg,this]
 |o+1,v::V,c::cs,h=>by
  have:=yP o (v::V) cs (by simp at h⊢;omega);simp only[mg,this];have e:o+1+(v::V).length=(o+(v::V).length)+1:=Z;rw[e,List.drop_succ_cons];simp
theorem jE{o:Nat}{v cs:List AV}(h:o+v.length<=cs.length):(mg o v cs).length=cs.length:=by
 rw[yP o v cs h];simp;omega
theorem oI:∀{o:Nat} {V cs:List AV} {c:AV},c∈mg o V cs->c∈V\/c∈cs
 |o,[],cs,c,h=>by cases o<;>cases cs<;>simp[mg]at h⊢<;>exact h
 |o,v::V,[],c,h=>by cases o<;>simp[mg]at h
 |0,v::V,u::cs,c,h=>by
  simp only[mg,List.mem_cons]at h;rcases h with h|h
  .exact .inl (by simp[h])
  .rcases oI h with h|h
   .exact .inl (by simp[h])
   .exact .inr (by simp[h])
 |o+1,v::V,u::cs,c,h=>by
  simp only[mg,List.mem_cons]at h;rcases h with h|h
  .exact .inr (by simp[h])
  .rcases oI h with h|h
   .exact .inl h
   .exact .inr (by simp[h])
def s0(o:Nat)(y:List Value)(x:Array Value):Array Value:=(x.toList.take o++y++x.toList.drop (o+y.length)).toArray
theorem jc{o:Nat}{y:List Value}{x:Array Value}(h:o+y.length<=x.size):(s0 o y x).size=x.size:=by simp[s0];omega
theorem fM{o:Nat}{y:List Value}{x:Array Value}(h:o+y.length<=x.size)(j:Nat):(s0 o y x)[j]? =if o<=j/\j<o+y.length then y[j-o]? else x[j]?:=by
 have e:(x.toList.take o).length=o:=by simp;omega
 simp only[s0,List.append_assoc,List.getElem?_toArray];rw[List.getElem?_append,e];by_cases H:j<o
 .simp[H,(Z:¬o<=j)]
 .rw[if_neg H,List.getElem?_append];by_cases a:j-o<y.length
  .simp[a,(Z:o<=j/\j<o+y.length)]
  .rw[if_neg a,if_neg Z,List.getElem?_drop];simp only[Array.getElem?_toList];congr 1;omega
theorem xh{o:Nat}{v cs:List AV}(h:o+v.length<=cs.length)(j:Nat):(mg o v cs)[j]? =if o<=j/\j<o+v.length then v[j-o]? else cs[j]?:=by
 rw[yP o v cs h];have e:(cs.take o).length=o:=by simp;omega
 rw[List.append_assoc,List.getElem?_append,e];by_cases H:j<o
 .simp[H,(Z:¬o<=j)]
 .rw[if_neg H,List.getElem?_append];by_cases a:j-o<v.length
  .simp[a,(Z:o<=j/\j<o+v.length)]
  .rw[if_neg a,if_neg Z,List.getElem?_drop];congr 1;omega
theorem fB(w:World)(g:Nat)(old cs:Array Value)(t:TypeId)(fr:Nat×Nat)(h:w.heap[g]? =some (.cells old t fr)):(w.setRow g cs).heap[g]? =some (.cells cs t fr):=by
 simp[World.setRow,Array.getElem?_modify,h]
theorem eJ(w:World)(g b:Nat)(cs:Array Value)(h:b≠g):(w.setRow g cs).heap[b]? =w.heap[b]?:=by
 simp only[World.setRow,Array.getElem?_modify];rw[if_neg (Ne.symm h)]
section
variable {P:Program} {X:Frm} {ops:Array Oper} {T:kb}
theorem xi{w:World}{t:Nat}{c:TI}(H:TiOk P t c)(b o:Nat)(x:Array Value)(e:TypeId)(v:Value)(hb:w.heap[b]? =some (.cells x e (0,0)))(f:v.cells.size=c.size)(h:o+v.cells.size<=x.size)
  (d:∀u∈v.cells.toList,u.oneCell'=true):(Instr.storeAt t (.pointer (some ⟨b,o,none⟩)) v).run P w=.ok () (w.setRow b (s0 o v.cells.toList x)):=by
 have a:=run_storeCells_at P b o e v.cells.toList 0 x w hb (by simpa using h) d;simp only[Nat.add_zero]at a;simp[Instr.storeAt,Instr.sureAddr,storeVar,H.sizeOf,f,a,s0]
theorem RelAt.write{ρ:Loc}{Im:Nat->Prop}{s:Nat->Option AV}{o:Xd}{a:Act}{w:World}(h:RelAt X ρ Im s o a w){id:Nat}{ob O:LObj}(g:o id=some ob)(r:ob.live=true)(v:ob.isRec=false){b:Nat}(hb:(ρ id).1=some b)
  (cs:Array Value) (n:ObjCon ρ Im (w.setRow b cs).heap id O) (D:∀i,NamesO i O->o i≠none):RelAt X ρ Im s (gw [(id,some O)] o) a (w.setRow b cs):=by
 have l:∀i,i≠id->gw [(id,some O)] o i=o i:=λi f=>by simp[gw,f]
 have m:∀i,o i≠none->gw [(id,some O)] o i≠none:=λi f=>by
  by_cases e:i=id
  .subst e;simp[gw]
  .rw[l i e];exact f
 have c:=h.own id ob b g r hb;refine h.upd (λi=>i=id) rfl rfl rfl ν (λz A u=>eJ w b z cs (λe=>u id ob rfl g r (by rw[e];exact hb))) (λi _=>rfl) (λi f=>l i f) m (λi p f H=>?_) (λi p f H=>by rw[f,g]at H;cases H;exact v);subst f;have:p=O:=by simp[gw]at H;exact H.symm
 subst this;refine⟨n,λj C=>m j (D j C),λ_ B d=>?_,λ_ B d I x k t q=>?_⟩
 .rw[hb]at d;cases d;exact⟨c.1,by simpa using c.2.1,c.2.2⟩
 .by_cases y:I=i
  .exact y
  .rw[l I y]at k;exact h.inj I i x ob B k t g r q d
def rB(t:TI)(o:Xd)(p v:AV)(k:Nat->LObj->Prop):Prop :=
 match p with
 |.lptr id off=>match o id with
  |some (.box cs)=>ck (Nat.beq v.cellsL.length t.size&&(Nat.ble (off+v.cellsL.length) cs.length&&fU v.cellsL)) (k id (.box (mg off v.cellsL cs)))
  |_=>False
 |.optr id sz i j=>match o id with
  | some (.arr n sz' get e)=>ck (Nat.beq v.cellsL.length t.size && (Nat.beq sz' sz && (Nat.ble (j + v.cellsL.length) sz && fU v.cellsL))) (Side (i<n)
    (k id (.arr n sz' (λI=>bif Nat.beq I i then mg j v.cellsL (get i)else get I) e)))
  |_=>False
 |_=>False
theorem nU{v:AV}(h:fU v.cellsL=true):v≠.junk:=by
 intro e;subst e;simp[AV.cellsL,fU,AV.one]at h
theorem uX{op:Oper}{t:Nat}{x y:Operand}(ho:op.op=.store t x y){A:St}(hg:lk ops op A.s)(hd:co X.nt op){ti:TI}(hti:TiOk P t ti){p v:AV}(hp:cm A.s x=some p)(hv:cm A.s y=some v){k:Nat->LObj->Prop}
  (h:rB ti A.o p v k):∃id ob,k id ob/\bD P X ops op A.s A.o (dj ops op (di x++di y) [id] .junk [(id,some ob)]):=by
 have fin:∀(id:Nat) (ob R:LObj),A.o id=some ob->ob.live=true->ob.isRec=false->fU v.cellsL=true->Nat.beq v.cellsL.length ti.size=true->(∀i,NamesO i R->NamesO i ob\/Names i v)->
   (∀(ρ:Loc) (Im:Nat->Prop) (w:World) (u z:Value),Con ρ Im w.heap p u->Con ρ Im w.heap v z->ObjCon ρ Im w.heap id ob->(∀b,(ρ id).1=some b->¬Im b)->
    ∃b O F e,u=.pointer (some ⟨b,O,none⟩)/\(ρ id).1=some b/\w.heap[b]? =some (.cells F e (0,0))/\O+z.cells.size<=F.size/\
     (∀H':eZ,H'[b]? =some (.cells (s0 O z.cells.toList F) e (0,0))->(∀b',b'≠b->H'[b']? =w.heap[b']?)->ObjCon ρ Im H' id R))->
   bD P X ops op A.s A.o (dj ops op (di x++di y) [id] .junk [(id,some R)]):=by
  intro id ob R K hl hrc S hlen hnm hh;refine cT hg hd λs' o' hs ho' ρ Im a w V=>?_;have hp':cm s' x=some p:=(ay λk hk=>hs k (by simp[hk])).trans hp;have hv':cm s' y=some v:=(ay λk hk=>hs k (by simp[hk])).trans hv;have E:o' id=some ob:=(ho' id ν).trans K;have o:=jb (V.opd hv') (nU S);obtain⟨b,O,F,e,e1,hb,hhp,f,hcon⟩:=hh ρ Im w _ _ (V.opd hp') (V.opd hv') (V.objs id ob E) (λb hb=>(V.own id ob b E hl hb).1);have N:(a.eval y).cells.size=ti.size:=by rw[o.1];exact Nat.eq_of_beq_eq_true hlen
  have hrun:=xi (P:=P) hti b O F e (a.eval y) hhp N f (fun u hu=>by
   obtain⟨i,B,rfl⟩:=List.mem_iff_getElem.1 hu;have hi2:i<v.cellsL.length:=by rw[<-o.1];simpa using B
   exact(o.2 i v.cellsL[i] _ ν ν).oneCell (k6 S _ ν))
  unfold Oper.wp;have he:(execOp a.eval op).run P w=.ok .skip (w.setRow b (s0 O (a.eval y).cells.toList F)):=by simp[execOp,ho,e1,hrun]
  rw[he];refine⟨undef,ρ,Im,rfl,V.write E hl hrc hb _ ?_ (λi B=>?_),.imm _ _ (.junk _),λi B=>by cases B⟩
  .exact hcon _ (fB w b F _ e (0,0) hhp) λb' C=>eJ w b b' _ C
  .rcases hnm i B with h1|h1
   .exact V.ocl id ob E i h1
   .exact V.opdN hv' h1
 have hcn:∀c∈v.cellsL,∀i,Names i c->Names i v:=by
  intro c r i B;unfold AV.cellsL at r;split at r
  .exact .agg _ c r B
  .simp at r;subst r;exact B
 unfold rB at h;split at h
 .rename_i id O;split at h
  .rename_i cs K;obtain⟨hb,hk⟩:=be h;simp only[Bool.and_eq_true]at hb;obtain⟨h1,h2,h3⟩:=hb;have h2':O+v.cellsL.length<=cs.length:=Nat.le_of_ble_eq_true h2;refine⟨id,_,hk,fin id _ _ K rfl rfl h3 h1 (λi B=>?_) λρ Im w u z hpu hvz L him=>?_⟩
   .cases B with
    |box _ c r B=>
     rcases oI r with r|r
     .exact .inr (hcn c r i B)
     .exact .inl (.box _ c r B)
   .cases L with
    |box _ b F e hρ hh hc=>
     cases hpu with
     |imm _ _ B=>cases B
     |lptr _ _ b' C=>
      rw[hρ]at C;cases C;have o:=jb hvz (nU h3);have f:O+z.cells.toList.length<=F.size:=by rw[hc.1];simp[o.1,h2']
      refine⟨b,O,F,e,rfl,hρ,hh,by simpa using f,λH' hH' hne=>.box _ b _ e hρ hH' ⟨?_,λj c y d H=>?_⟩⟩
      .rw[jc f,jE h2',hc.1]
      .have m:∀{c:AV} {y:Value},Con ρ Im w.heap c y->Con ρ Im H' c y:=λhcy=>hcy.mono (λb hb=>hb) λb2 hb2=>hne b2 λe=>him b hρ (e▸hb2);rw[xh h2']at d;rw[fM f]at H;have hzl:z.cells.toList.length=v.cellsL.length:=by simp[o.1]
       rw[hzl]at H;split at d
       .rename_i l;rw[if_pos l]at H;exact m (o.2 _ c y d (by simpa using H))
       .rename_i l;rw[if_neg l]at H;exact m (hc.2 j c y d H)
  .exact h.elim
 .rename_i id sz i j;split at h
  .rename_i n s get e K;obtain⟨hb,hlt,hk⟩:=be h;simp only[Bool.and_eq_true]at hb;obtain⟨h1,h2,h4,h3⟩:=hb;have h2:s=sz:=Nat.eq_of_beq_eq_true h2;subst h2;have h4':j+v.cellsL.length<=s:=Nat.le_of_ble_eq_true h4;refine⟨id,_,hk,fin id _ _ K rfl rfl h3 h1 (λq hq=>?_) λρ Im w u z hpu hvz L him=>?_⟩
   .cases hq with
    |arr _ _ _ _ I c D r hq=>
     simp only[aJ]at r;split at r
     .rcases oI r with r|r
      .exact .inr (hcn c r q hq)
      .exact .inl (.arr _ _ _ _ i c hlt r hq)
     .exact .inl (.arr _ _ _ _ I c D r hq)
   .cases L with
    |arr0=>omega
    |arr _ _ _ _ b F hρ hh hn hcap hxs hbd N hc=>
     cases hpu with
     |imm _ _ B=>cases B
     |optr _ _ _ _ b' C=>
      rw[hρ]at C;cases C;have o:=jb hvz (nU h3);have hzl:z.cells.toList.length=v.cellsL.length:=by simp[o.1]
      have hle:(i+1)*s<=(ρ id).2*s:=Nat.mul_le_mul_right _ Z;have hadd:(i+1)*s=i*s+s:=Nat.succ_mul i s;have hgi:=N i hlt;have f:i*s+j+z.cells.toList.length<=F.size:=Z;have W:j+v.cellsL.length<=(get i).length:=Z;refine⟨b,i*s+j,F,e,rfl,hρ,hh,by simpa using f,λH' hH' hne=>.arr n s _ e b _ hρ hH' hn hcap (by rw[jc f];exact hxs) hbd (λI D=>?_) λI Q c y D d H=>?_⟩
      .simp only[aJ];split
       .rw[jE W];exact hgi
       .exact N I D
      .have m:∀{c:AV} {y:Value},Con ρ Im w.heap c y->Con ρ Im H' c y:=λhcy=>hcy.mono (λb hb=>hb) λb2 hb2=>hne b2 λe=>him b hρ (e▸hb2);rw[fM f,hzl]at H;simp only[aJ]at d;split at d
       .rename_i G;subst G;rw[xh W]at d;by_cases l:j<=Q/\Q<j+v.cellsL.length
        .rw[if_pos l]at d;rw[if_pos Z]at H;refine m (o.2 _ c y d ?_);rw[(Z:I*s+Q-(I*s+j)=Q-j)]at H;simpa using H
        .rw[if_neg l]at d;rw[if_neg Z]at H;exact m (hc I Q c y D d H)
       .rename_i G;have hj0:Q<s:=by
         have:=(List.getElem?_eq_some_iff.1 d).1;have:=N I D;omega
        have hout:¬(i*s+j<=I*s+Q/\I*s+Q<i*s+j+v.cellsL.length):=by
         rintro⟨g1,g2⟩;rcases Nat.lt_or_gt_of_ne G with g|g
         .have:(I+1)*s<=i*s:=Nat.mul_le_mul_right _ g;rw[Nat.succ_mul]at this;omega
         .have:(i+1)*s<=I*s:=Nat.mul_le_mul_right _ g;omega
        rw[if_neg hout]at H;exact m (hc I Q c y D d H)
  .exact h.elim
 .exact h.elim
end
section
variable {P:Program}
theorem qW{w:World}{t e:Nat}(I:P.underlying t=some (.slice e)){p:TI}(X:TiOk P e p)(L:TypeId)(l:Option Nat)(n cap:Nat)(f:Array Value)
  (hd:(l=none/\n=0/\cap=0)\/∃g,l=some g/\w.heap[g]? =some (.cells f e (0,0))/\n<=cap/\cap<=maxLen/\f.size=cap*p.size)
  (sv:Value) (m:Nat) (N:List Value) (A:N.length=m*p.size) (hs:(sv=.slice none 0 0/\m=0)\/∃a c,sv=.slice (some a) m c/\∀j u,N[j]? =some u->w.cell? (a.add j)=some u)
  (h1:∀u∈N,u.oneCell'=true) (hb:(n+m)*p.bytes<=140737488355328) (hm:n+m<=f8) :
  ∃B C W,(Builtin.append_ #[t,t] L #[.slice (l.map λb=>⟨b,0,none⟩) n cap,sv]).run P w=.ok (.slice (B.map λb=>⟨b,0,none⟩) (n+m) C) W/\
   ((B=none/\n+m=0/\C=0)\/∃(G:Nat) (d:Array Value),B=some G/\W.heap[G]? =some (.cells d e (0,0))/\n+m<=C/\C<=maxLen/\d.size=C*p.size/\
    (∀j,j<n*p.size->d[j]? =f[j]?)/\(∀j,j<m*p.size->d[n*p.size+j]? =N[j]?)/\(l=some G\/G=w.heap.size))/\
   W.os=w.os/\W.tape=w.tape/\W.output=w.output/\w.heap.size<=W.heap.size/\∀b,b<w.heap.size->l≠some b->W.heap[b]? =w.heap[b]?:=by
 obtain⟨i,z,F,h,hby,hz,hzc,_⟩:=X.info;have V:n+m<=maxLen:=by simp only[f8,maxLen]at hm⊢;omega
 have Q:((n+m:Nat):Int)<=9223372036854775807:=by simp only[f8]at hm;omega
 rw[<-h]at A;rw[<-hby]at hb;have D:z.cells.size=i.size:=by
  have:=congrArg List.length hzc;rw[List.length_map,X.zlen]at this;rw[h];simpa using this
 have hadd:(n+m)*i.size=n*i.size+m*i.size:=Nat.add_mul _ _ _;rcases hd with⟨rfl,rfl,rfl⟩|⟨g,rfl,hg,y,R,s⟩
 ·--a nil slice
  simp only[Nat.zero_add]at *;have O:m=0->∃B C W,(Builtin.append_ #[t,t] L #[.slice ((none:Option Nat).map λb=>⟨b,0,none⟩) 0 0,sv]).run P w=.ok (.slice (B.map λb=>⟨b,0,none⟩) m C) W/\
    ((B=none/\m=0/\C=0)\/∃G d,B=some G/\W.heap[G]? =some (.cells d e (0,0))/\m<=C/\C<=maxLen/\d.size=C*p.size/\
     (∀j,j<0*p.size->d[j]? =f[j]?)/\(∀j,j<m*p.size->d[0*p.size+j]? =N[j]?)/\(none=some G\/G=w.heap.size))/\
    W.os=w.os/\W.tape=w.tape/\W.output=w.output/\w.heap.size<=W.heap.size/\∀b,b<w.heap.size->none≠some b->W.heap[b]? =w.heap[b]?:=by
   intro k;subst k;refine⟨none,0,w,?_,.inl ⟨rfl,rfl,rfl⟩,rfl,rfl,rfl,π _,λ_ _ _=>rfl⟩;have hn0:N=[]:=List.eq_nil_of_length_eq_zero (by simpa using A);rcases hs with⟨rfl,_⟩|⟨a,c,rfl,_⟩
   .simp[Builtin.append_,run_underlying I,sizeOf,typeInfo,F,Builtin.lenOf,Builtin.firstCells]
   .simp[Builtin.append_,run_underlying I,sizeOf,typeInfo,F,Builtin.lenOf,Builtin.firstCells,loadCells,loadCellsFrom]
  rcases hs with⟨rfl,k⟩|⟨a,c,rfl,H⟩
  .exact O k
  .by_cases k:m=0
   .exact O k
   .have K:=run_append_nil (P:=P) w t L e i z I F hz a m c N A H Z Q Z;have E:=grownCap_ge w m 0 e;refine⟨some w.heap.size,grownCap w m 0 e,_,K,.inr ⟨w.heap.size,_,rfl,heap_alloc_new w.drew _,E,grownCap_le_maxLen w m 0 e V,?_,λj x=>by simp at x,λj x=>?_,.inr rfl⟩,rfl,rfl,rfl,by simp,λb hb _=>heap_alloc_old w.drew _ b hb⟩
    .rw[Array.size_append,size_zeroCells,D,List.size_toArray,A,<-Nat.add_mul,h];congr 1;omega
    .simp only[Nat.zero_mul,Nat.zero_add];rw[Array.getElem?_append_left (by simp;rw[A,h];exact x)];simp
 ·--an array of its own
  have keep:m=0->∃B C W,(Builtin.append_ #[t,t] L #[.slice ((some g).map λb=>⟨b,0,none⟩) n cap,sv]).run P w=.ok (.slice (B.map λb=>⟨b,0,none⟩) (n+m) C) W/\
    ((B=none/\n+m=0/\C=0)\/∃(G:Nat) (d:Array Value),B=some G/\W.heap[G]? =some (.cells d e (0,0))/\n+m<=C/\C<=maxLen/\d.size=C*p.size/\
     (∀j,j<n*p.size->d[j]? =f[j]?)/\(∀j,j<m*p.size->d[n*p.size+j]? =N[j]?)/\(some g=some G\/G=w.heap.size))/\
    W.os=w.os/\W.tape=w.tape/\W.output=w.output/\w.heap.size<=W.heap.size/\∀b,b<w.heap.size->some g≠some b->W.heap[b]? =w.heap[b]?:=by
   intro k;subst k;refine⟨some g,cap,w,?_,.inr ⟨g,f,rfl,hg,y,R,s,λ_ _=>rfl,λj x=>by simp at x,.inl rfl⟩,rfl,rfl,rfl,π _,λ_ _ _=>rfl⟩;rcases hs with⟨rfl,_⟩|⟨a,c,rfl,H⟩
   .simp[Builtin.append_,run_underlying I,sizeOf,typeInfo,F,Builtin.lenOf,Builtin.firstCells,y,storeCells]
   .simp[Builtin.append_,run_underlying I,sizeOf,typeInfo,F,Builtin.lenOf,Builtin.firstCells,loadCells,loadCellsFrom,y,storeCells]
  rcases hs with⟨rfl,k⟩|⟨a,c,rfl,H⟩
  .exact keep k
  .by_cases q:n+m<=cap
   .have S:(n+m)*i.size<=cap*i.size:=Nat.mul_le_mul_right _ q;have r:n*i.size+N.length<=f.size:=by rw[s,<-h];omega
    have K:=run_append_room (P:=P) w t L e i I F g n cap f hg a m c N A H h1 q r;have e1:(f.toList.take (n*i.size)++N++f.toList.drop (n*i.size+N.length)).toArray=s0 (n*i.size) N f:=rfl;rw[e1]at K;refine⟨some g,cap,_,K,.inr ⟨g,_,rfl,fB w g f _ e (0,0) hg,q,R,by rw[jc r];exact s,λj x=>?_,λj x=>?_,.inl rfl⟩,rfl,rfl,rfl,by simp,λb _ hne=>eJ w g b _ (λe=>hne (by rw[e]))⟩
    .rw[fM r,if_neg (by rw[h];omega)]
    .have hl':N.length=m*p.size:=by rw[<-h];exact A
     rw[fM r,h,if_pos ⟨Z,Z⟩];congr 1;omega
   .have hgr:=growslice_fits (need:=n+m) (old:=cap) (bytes:=i.bytes) Z hb;have K:=run_append_grow (P:=P) w t L e i z I F hz ⟨g,0,none⟩ n cap (f.toList.take (n * i.size)) (by
      have S:n*i.size<=cap*i.size:=Nat.mul_le_mul_right _ y;simp;rw [s,<- h];omega) (fun j v hv=>by
      rw[Addr.add_lit,cell_of_row w g _ f e (0,0) hg];rw[List.getElem?_take]at hv;split at hv
      .simpa using hv
      .cases hv) a m c N A H Z Q hgr
    have E:=grownCap_ge w (n+m) cap e;have o:(f.toList.take (n*i.size)).length=n*i.size:=by
     have S:n*i.size<=cap*i.size:=Nat.mul_le_mul_right _ y;simp;rw[s,<-h];omega
    refine⟨some w.heap.size,grownCap w (n+m) cap e,_,K,.inr ⟨w.heap.size,_,rfl,heap_alloc_new w.drew _,E,grownCap_le_maxLen w (n+m) cap e V,?_,λj x=>?_,λj x=>?_,.inr rfl⟩,rfl,rfl,rfl,by simp,λb hb _=>heap_alloc_old w.drew _ b hb⟩
    .rw[Array.size_append,Array.size_append,size_zeroCells,D,List.size_toArray,List.size_toArray,o,A,<-Nat.add_mul,<-Nat.add_mul,h];congr 1;omega
    .rw[Array.append_assoc,Array.getElem?_append_left (by rw[List.size_toArray,o,h];exact x)];rw[List.getElem?_toArray,List.getElem?_take,if_pos (by rw[h];exact x)];simp
    .rw[Array.getElem?_append_left (by rw[Array.size_append,List.size_toArray,List.size_toArray,o,A,h];omega)];rw[Array.getElem?_append_right (by rw[List.size_toArray,o,h];omega)];rw[List.size_toArray,o,h,Nat.add_sub_cancel_left];simp
theorem qX{w:World}{t e:Nat}(N:P.underlying t=some (.slice e)){f:TI}(l:TiOk P e f)(r:TypeId)(p:Option Addr)(s:Array Value)
  (S:Value) (m:Nat) (n:List Value) (k:n.length=m*f.size) (V:(S=.slice none 0 0/\m=0)\/∃a c,S=.slice (some a) m c/\∀j u,n[j]? =some u->w.cell? (a.add j)=some u)
  (hb:m*f.bytes<=140737488355328) (K:m<=f8) (L:0<m) :
  ∃B C W,(Builtin.append_ #[t,t] r #[.slice p 0 0,S]).run P w=.ok (.slice (B.map λb=>⟨b,0,none⟩) (0+m) C) W/\
   ((B=none/\0+m=0/\C=0)\/∃G d,B=some G/\W.heap[G]? =some (.cells d e (0,0))/\0+m<=C/\C<=maxLen/\d.size=C*f.size/\
    (∀j,j<0*f.size->d[j]? =s[j]?)/\(∀j,j<m*f.size->d[0*f.size+j]? =n[j]?)/\((none:Option Nat)=some G\/G=w.heap.size))/\
   W.os=w.os/\W.tape=w.tape/\W.output=w.output/\w.heap.size<=W.heap.size/\∀b,b<w.heap.size->(none:Option Nat)≠some b->W.heap[b]? =w.heap[b]?:=by
 obtain⟨i,z,F,H,x,O,E,_⟩:=l.info;have D:m<=maxLen:=by simp only[f8,maxLen]at K⊢;omega
 have g:((m:Nat):Int)<=9223372036854775807:=by simp only[f8]at K;omega
 rw[<-H]at k;rw[<-x]at hb;have o:z.cells.size=i.size:=by
  have:=congrArg List.length E;rw[List.length_map,l.zlen]at this;rw[H];simpa using this
 simp only[Nat.zero_add,Nat.zero_mul];rcases V with⟨rfl,Q⟩|⟨a,c,rfl,h⟩
 .omega
 .have R:(Builtin.append_ #[t,t] r #[.slice p 0 0,.slice (some a) m c]).run P w=.ok (.slice (some ⟨w.heap.size,0,none⟩) m (grownCap w m 0 e)) (w.drew.alloc (.cells (n.toArray++Builtin.zeroCells z.cells (grownCap w m 0 e-m)) e)):=by
   cases p with
   |none=>exact run_append_nil (P:=P) w t r e i z N F O a m c n k h Z g Z
   |some q=>
    have A:=growslice_fits (need:=0+m) (old:=0) (bytes:=i.bytes) Z (by rw[Nat.zero_add];exact hb);have:=run_append_grow (P:=P) w t r e i z N F O q 0 0 [] ν (λj v X=>by simp at X) a m c n k h Z (by rw[Nat.zero_add];exact g) A;simpa using this
  have y:=grownCap_ge w m 0 e;refine⟨some w.heap.size,grownCap w m 0 e,_,R,.inr ⟨w.heap.size,_,rfl,heap_alloc_new w.drew _,y,grownCap_le_maxLen w m 0 e D,?_,λj I=>Z,λj I=>?_,.inr rfl⟩,rfl,rfl,rfl,by simp,λb hb _=>heap_alloc_old w.drew _ b hb⟩
  .rw[Array.size_append,size_zeroCells,o,List.size_toArray,k,<-Nat.add_mul,H];congr 1;omega
  .rw[Array.getElem?_append_left (by simp;rw[k,H];exact I)];simp
theorem qY{w:World}{t e:Nat}(X:P.underlying t=some (.slice e)){f:TI}(l:TiOk P e f)(L:TypeId)(q:Addr)(n:Nat)(o:List Value)(h:o.length=n*f.size)(k:∀j v,o[j]? =some v->w.cell? (q.add j)=some v)
  (S:Value) (m:Nat) (N:List Value) (r:N.length=m*f.size) (V:(S=.slice none 0 0/\m=0)\/∃a c,S=.slice (some a) m c/\∀j u,N[j]? =some u->w.cell? (a.add j)=some u)
  (hb:(n+m)*f.bytes<=140737488355328) (I:n+m<=f8) (K:0<m) :
  ∃B C W,(Builtin.append_ #[t,t] L #[.slice (some q) n n,S]).run P w=.ok (.slice (B.map λb=>⟨b,0,none⟩) (n+m) C) W/\
   ((B=none/\n+m=0/\C=0)\/∃(G:Nat) (d:Array Value),B=some G/\W.heap[G]? =some (.cells d e (0,0))/\n+m<=C/\C<=maxLen/\d.size=C*f.size/\
    (∀j,j<n*f.size->d[j]? =o.toArray[j]?)/\(∀j,j<m*f.size->d[n*f.size+j]? =N[j]?)/\((none:Option Nat)=some G\/G=w.heap.size))/\
   W.os=w.os/\W.tape=w.tape/\W.output=w.output/\w.heap.size<=W.heap.size/\∀b,b<w.heap.size->(none:Option Nat)≠some b->W.heap[b]? =w.heap[b]?:=by
 obtain⟨i,z,O,H,x,hz,E,_⟩:=l.info;have D:n+m<=maxLen:=by simp only[f8,maxLen]at I⊢;omega
 have s:((n+m:Nat):Int)<=9223372036854775807:=by simp only[f8]at I;omega
 rw[<-H]at r h;rw[<-x]at hb;have p:z.cells.size=i.size:=by
  have:=congrArg List.length E;rw[List.length_map,l.zlen]at this;rw[H];simpa using this
 rcases V with⟨rfl,Q⟩|⟨a,c,rfl,g⟩
 .omega
 .have A:=growslice_fits (need:=n+m) (old:=n) (bytes:=i.bytes) Z hb;have R:=run_append_grow (P:=P) w t L e i z X O hz q n n o h k a m c N r g Z s A;have y:=grownCap_ge w (n+m) n e;refine⟨some w.heap.size,grownCap w (n+m) n e,_,R,.inr ⟨w.heap.size,_,rfl,heap_alloc_new w.drew _,y,grownCap_le_maxLen w (n+m) n e D,?_,λj F=>?_,λj F=>?_,.inr rfl⟩,rfl,rfl,rfl,by simp,λb hb _=>heap_alloc_old w.drew _ b hb⟩
  .rw[Array.size_append,Array.size_append,size_zeroCells,p,List.size_toArray,List.size_toArray,h,r,<-Nat.add_mul,<-Nat.add_mul,H];congr 1;omega
  .rw[Array.append_assoc,Array.getElem?_append_left (by rw[List.size_toArray,h,H];exact F)]
  .rw[Array.getElem?_append_left (by rw[Array.size_append,List.size_toArray,List.size_toArray,h,r,H];omega)];rw[Array.getElem?_append_right (by rw[List.size_toArray,h,H];omega)];rw[List.size_toArray,h,H,Nat.add_sub_cancel_left];simp
end
section
variable {P:Program} {X:Frm} {ops:Array Oper} {T:kb}
inductive Src(o:Xd):AV->Nat->Nat->(Nat->List AV)->List Nat->Prop
 |isl (n sz get):Src o (.isl n sz get) n sz get []
 |osl (id n m sz get e) (h:o id=some (.arr m sz get e)) (hm:n<=m):Src o (.osl id n) n sz get [id]
 |nils (sz):Src o .nils 0 sz (λ_=>[]) []
theorem Src.read{o:Xd}{v:AV}{m sz:Nat}{get:Nat->List AV}{R:List Nat}(h:Src o v m sz get R){ρ:Loc}{Im:Nat->Prop}{w:World}(l:Mem X ρ Im o w){u:Value}(A:Con ρ Im w.heap v u) :
  m <= th/\(((∃p,u=.slice p 0 0)/\m=0)\/∃b O cap arr T fr,u=.slice (some ⟨b,O,none⟩) m cap/\w.heap[b]? =some (.cells arr T fr)/\O+m*sz<=arr.size/\(∀i,i<m->(get i).length=sz)/\
   ∀(i j:Nat) (c:AV) (x:Value),i<m->(get i)[j]? =some c->arr[O+i*sz+j]? =some x->Con ρ Im w.heap c x)/\∀i,i<m->∀c∈get i,∀k,Names k c->o k≠none:=by
 cases h with
 |isl=>
  rcases A.isl_inv with⟨n,G⟩|⟨b,O,cap,arr,T,fr,rfl,E,hb,H,n,a,g,f⟩
  .exact⟨by rw[n];exact χ _,.inl ⟨G,n⟩,λi d=>Z⟩
  .refine⟨a,.inr ⟨b,O,cap,arr,T,fr,rfl,hb,g,H,λi j c x B q r=>.imm _ _ (f i j c x B q r)⟩,λi d c l k s=>?_⟩;obtain⟨j,I,rfl⟩:=List.mem_iff_getElem.1 l;have t:(i+1)*sz<=m*sz:=Nat.mul_le_mul_right _ d;have C:(i+1)*sz=i*sz+sz:=Nat.succ_mul i sz;have D:=H i d;exact absurd s ((f i j _ (arr[O+i*sz+j]'Z) d ν ν).noNames k)
 |osl id _ n' _ _ e ho t=>
  obtain⟨a,F,y,rfl⟩:=A.osl_inv;refine⟨tj a,?_,λi d c f k s=>l.ocl id _ ho k (.arr _ _ _ _ i c Z f s)⟩;have z:=l.objs id _ ho;cases z with
  |arr0 _ _ _ hρ=>
   have:m=0:=Z;subst this;exact .inl ⟨by simp[hρ],rfl⟩
  |arr _ _ _ _ b xs hρ hh n hcap hxs hbd' H f=>
   refine .inr ⟨b,0,(ρ id).2,xs,e,(0,0),by simp[hρ],hh,?_,λi d=>H i Z,λi j c x B q r=>f i j c x Z q (by simpa using r)⟩;have:m*sz<=(ρ id).2*sz:=Nat.mul_le_mul_right _ y;omega
 |nils=>
  cases A.nils_inv;exact⟨χ _,.inl ⟨⟨none,rfl⟩,rfl⟩,λi d=>Z⟩
theorem Src.congr{o o':Xd}{v:AV}{m sz:Nat}{get:Nat->List AV}{r:List Nat}(h:Src o v m sz get r)(H:∀i∈r,o' i=o i):Src o' v m sz get r:=by
 cases h with
 |isl=>exact .isl _ _ _
 |osl id _ n' _ _ e h hle=>exact .osl id _ n' _ _ e ((H id ν).trans h) hle
 |nils=>exact .nils _
theorem Ck{ρ:Loc}{Im:Nat->Prop}{H:eZ}{m sz o:Nat}{g:Nat->List AV}{a:Array Value}(_hfit:o+m*sz<=a.size)
  (d:∀(i j:Nat) (c:AV) (x:Value),i<m->(g i)[j]? =some c->a[o+i*sz+j]? =some x->Con ρ Im H c x) :
  ∀(i j:Nat) (c:AV) (x:Value),i<m->(g i)[j]? =some c->((a.toList.drop o).take (m*sz))[i*sz+j]? =some x->Con ρ Im H c x:=by
 intro i j c x e b h;rw[List.getElem?_take]at h;split at h
 .rw[List.getElem?_drop]at h;exact d i j c x e b (by rw[Nat.add_assoc];simpa using h)
 .cases h
theorem RelAt.append{ρ:Loc}{Im:Nat->Prop}{s:Nat->Option AV}{o:Xd}{a:Act}{w w':World}(h:RelAt X ρ Im s o a w){d:Nat}(hd:o d=none){old:List Nat}{A:Option Nat}{n m sz e:Nat}{G l:Nat->List AV}{cur:Array Value}
  (q:(old=[]/\A=none/\∀i,i<n->∀c∈G i,∀k,¬Names k c)\/∃id Q,old=[id]/\o id=some (.arr Q sz G e)/\n<=Q/\id∉X.pid/\(ρ id).1=A)
  (hcur:∀(i j:Nat) (c:AV) (x:Value),i<n->(G i)[j]? =some c->cur[i*sz+j]? =some x->Con ρ Im w.heap c x) (hl1:∀i,i<n->(G i).length=sz)
  {news:List Value} (hnew:∀(i j:Nat) (c:AV) (x:Value),i<m->(l i)[j]? =some c->news[i*sz+j]? =some x->Con ρ Im w.heap c x) (hl2:∀i,i<m->(l i).length=sz)
  (hn2:∀i,i<m->∀c∈l i,∀k,Names k c->o k≠none) {B:Option Nat} {y:Nat} (hbd:n+m<=f8)
  (hb : (B=none/\n+m=0/\y=0)\/∃R C,B=some R/\w'.heap[R]? =some (.cells C e (0,0))/\n+m<=y/\y<=maxLen/\C.size=y*sz/\
      (∀j,j<n*sz->C[j]? =cur[j]?)/\(∀j,j<m*sz->C[n*sz+j]? =news[j]?)/\(A=some R\/R=w.heap.size))
  (hos:w'.os=w.os) (htape:w'.tape=w.tape) (hout:w'.output=w.output) (hsize:w.heap.size<=w'.heap.size) (hblk:∀b,b<w.heap.size->A≠some b->w'.heap[b]? =w.heap[b]?) :
  RelAt X (ρ.set d (B,y)) Im s (gw ((d,some (.arr (n+m) sz (λi=>bif Nat.blt i n then G i else l (i-n)) e))::old.map λi=>(i,some .dead)) o) a w':=by
 have hdo:d∉old:=by
  rcases q with⟨rfl,_⟩|⟨id,Q,rfl,ho,_⟩
  .simp
  .simp only[List.mem_singleton];intro e;subst e;rw[hd]at ho;cases ho
 have holdo:∀i∈old,o i≠none:=by
  rcases q with⟨rfl,_⟩|⟨id,Q,rfl,ho,_⟩
  .simp
  .simp[ho]
 have W:∀i,gw ((d,some (.arr (n+m) sz (λi=>bif Nat.blt i n then G i else l (i-n)) e))::old.map λi=>(i,some .dead)) o i=
   if i=d then some (.arr (n+m) sz (λi=>bif Nat.blt i n then G i else l (i-n)) e)else if i∈old then some .dead else o i:=by
  intro i;simp only[gw];split
  .rfl
  .rcases q with⟨rfl,_⟩|⟨id,Q,rfl,ho,_⟩
   .simp[gw]
   .simp[gw]
 have hal:∀i,o i≠none->gw ((d,some (.arr (n+m) sz (λi=>bif Nat.blt i n then G i else l (i-n)) e))::old.map λi=>(i,some .dead)) o i≠none:=by
  intro i t;rw[W];split
  .simp
  .split
   .simp
   .exact t
 have hbo:∀g,A=some g->∀id ob,o id=some ob->ob.live=true->(ρ id).1=some g->id∈old:=by
  intro g hg id ob f hl hr;rcases q with⟨_,F,_⟩|⟨v,Q,rfl,u,_,_,E⟩
  .rw[F]at hg;cases hg
  .simp[h.inj id v ob _ g f hl u rfl hr (by rw[E];exact hg)]
 refine h.upd (λi=>i=d\/i∈old) hos htape hout hsize (λb hb hne=>hblk b hb λH=>?_) (λi t=>Loc.set_ne _ _ λe=>t (by rw[e];exact hd)) (λi t=>?_) hal (λi ob t f=>?_) (λi ob t f=>?_);rotate_right
 .rcases t with t|t
  .rw[t,hd]at f;cases f
  .rcases q with⟨rfl,_⟩|⟨v,Q,rfl,u,_,_,_⟩
   .cases t
   .rw[List.mem_singleton.1 t,u]at f;cases f;rfl
 .rcases q with⟨_,F,_⟩|⟨v,Q,rfl,u,_,_,E⟩
  .rw[F]at H;cases H
  .exact hne v _ (.inr ν) u rfl (by rw[E];exact H)
 .rw[W,if_neg (λe=>t (.inl e)),if_neg (λe=>t (.inr e))]
 .rw[W]at f;by_cases V:i=d
  .rw[if_pos V]at f;subst V;simp only[Option.some.injEq]at f;subst f;have hcm:∀{c:AV} {x:Value},Con ρ Im w.heap c x->(∀k,Names k c->o k≠none)->Con (ρ.set i (B,y)) Im w'.heap c x:=λhc N=>
    (hc.mono (fun b hb=>hb) fun b hb=>hblk b (h.imlt b hb) fun H=>by
     rcases q with⟨_,F,_⟩|⟨v,Q,rfl,u,_,_,E⟩
     .rw[F]at H;cases H
     .exact(h.own v _ b u rfl (by rw[E];exact H)).1 hb).reloc λk hn=>Loc.set_ne _ _ λe=>N k hn (by rw[e];exact hd)
   have hn1:∀i,i<n->∀c∈G i,∀k,Names k c->o k≠none:=by
    intro i t c hc k N;rcases q with⟨_,_,hn0⟩|⟨v,Q,rfl,u,hle,_,_⟩
    .exact absurd N (hn0 i t c hc k)
    .exact h.ocl v _ u k (.arr _ _ _ _ i c Z hc N)
   have L:∀I,(bif Nat.blt I n then G I else l (I-n))=if I<n then G I else l (I-n):=by
    intro I;by_cases p:I<n
    .rw[if_pos p,show Nat.blt I n=true by simpa[Nat.blt_eq]using p];rfl
    .rw[if_neg p];cases hbl:Nat.blt I n with
     |true=>exact absurd (by simpa[Nat.blt_eq]using hbl) p
     |false=>rfl
   refine⟨?_,λk N=>?_,λ_ b H=>?_,λ_ b H id' ob' z hl' hb'=>?_⟩
   .rcases hb with⟨rfl,hz,rfl⟩|⟨R,C,rfl,S,hnc,hcm',hcs,hc1,hc2,_⟩
    .rw[hz];exact .arr0 _ _ _ (by rw[Loc.set_same])
    .refine .arr _ _ _ _ R C (by rw[Loc.set_same]) S (by rw[Loc.set_same];exact hnc) (by rw[Loc.set_same];exact hcm') (by rw[Loc.set_same];exact hcs) hbd (λI hi'=>?_) λI j c x hi' D hxj=>?_
     .simp only[L];split
      .rename_i p;exact hl1 I p
      .exact hl2 _ Z
     .simp only[L]at D;split at D
      .rename_i p;have hjl:j<sz:=by have:=(List.getElem?_eq_some_iff.1 D).1;have:=hl1 I p;omega
       have O:(I+1)*sz<=n*sz:=Nat.mul_le_mul_right _ p;rw[Nat.succ_mul]at O;rw[hc1 _ Z]at hxj;exact hcm (hcur I j c x p D hxj) (hn1 I p c (List.mem_of_getElem? D))
      .rename_i p;have K:I-n<m:=Z;have hjl:j<sz:=by have:=(List.getElem?_eq_some_iff.1 D).1;have:=hl2 _ K;omega
       have O:(I-n+1)*sz<=m*sz:=Nat.mul_le_mul_right _ K;rw[Nat.succ_mul]at O;have e1:I*sz+j=n*sz+((I-n)*sz+j):=by
        have:I*sz=n*sz+(I-n)*sz:=by rw[<-Nat.add_mul];congr 1;omega
        omega
       rw[e1,hc2 _ Z]at hxj;exact hcm (hnew _ j c x K D hxj) (hn2 _ K c (List.mem_of_getElem? D))
   .cases N with
    |arr _ _ _ _ I c hi' hm N=>
     simp only[L]at hm;split at hm
     .rename_i p;exact hal k (hn1 I p c hm k N)
     .exact hal k (hn2 _ Z c hm k N)
   .rw[Loc.set_same]at H;rcases hb with⟨rfl,_,_⟩|⟨R,C,rfl,S,_,_,_,_,_,r⟩
    .cases H
    .simp only[Option.some.injEq]at H;subst H;have hlt':=(Array.getElem?_eq_some_iff.1 S).1;rcases r with r|r
     .rcases q with⟨_,F,_⟩|⟨v,Q,rfl,u,_,hp,E⟩
      .rw[F]at r;cases r
      .obtain⟨h1,h2,h3⟩:=h.own v _ R u rfl (by rw[E];exact r);exact⟨h1,hlt',.inl (h3.resolve_right hp)⟩
     .subst r;exact⟨λt=>by have:=h.imlt _ t;omega,hlt',.inl h.size⟩
   .rw[Loc.set_same]at H;by_cases he:id'=i
    .exact he
    .exfalso;rw[W,if_neg he]at z;split at z
     .simp only[Option.some.injEq]at z;subst z;cases hl'
     .rename_i hni;rw[Loc.set_ne _ _ he]at hb';rcases hb with⟨rfl,_,_⟩|⟨R,C,rfl,S,_,_,_,_,_,r⟩
      .cases H
      .simp only[Option.some.injEq]at H;subst H;rcases r with r|r
       .exact hni (hbo _ r id' ob' z hl' hb')
       .subst r;have:=(h.own id' ob' _ z hl' hb').2.1;omega
  .rw[if_neg V]at f;rcases t with t|t
   .exact absurd t V
   .rw[if_pos t]at f;simp only[Option.some.injEq]at f;subst f;exact⟨.dead,λk N=>(by cases N),λhl=>(by cases hl),λhl=>(by cases hl)⟩
def tp(o:Xd)(v:AV)(sz:Nat)(k:Nat->(Nat->List AV)->List Nat->Prop):Prop:=match v with
 |.isl n sz' get=>ck (Nat.beq sz' sz) (k n get [])
 |.osl id n=>match o id with
  |some (.arr m sz' get _)=>ck (Nat.beq sz' sz) (Side (n<=m) (k n get [id]))
  |_=>False
 |.nils=>k 0 (λ_=>[]) []
 |_=>False
theorem jF{o:Xd}{v:AV}{sz:Nat}{k:Nat->(Nat->List AV)->List Nat->Prop}(h:tp o v sz k):∃n g r,k n g r/\Src o v n sz g r:=by
 unfold tp at h;split at h
 .obtain⟨b,H⟩:=be h;have:=Nat.eq_of_beq_eq_true b;subst this;exact⟨_,_,_,H,.isl _ _ _⟩
 .split at h
  .rename_i id n m s g e c;obtain⟨b,a,H⟩:=be h;have:=Nat.eq_of_beq_eq_true b;subst this;exact⟨_,_,_,H,.osl _ _ _ _ _ _ c a⟩
  .exact h.elim
 .exact⟨_,_,_,h,.nils _⟩
 .exact h.elim
def tq(b n m:Nat)(g:Nat->List AV):Prop:=(n+m<=1099511627776\/b<=8/\n+m<=17592186044416)/\∀i,i<m->fU (g i)=true
theorem AE{bytes n m:Nat}{g:Nat->List AV}(a:Nat.ble bytes 128=true)(h:tq bytes n m g):(n+m)*bytes<=140737488355328/\n+m<=f8:=by
 obtain⟨H,_⟩:=h;have a:=Nat.le_of_ble_eq_true a;rcases H with H|⟨b,H⟩
 .exact⟨Nat.le_trans (Nat.mul_le_mul H a) Z,by simp only[f8];omega⟩
 .exact⟨Nat.le_trans (Nat.mul_le_mul H b) Z,by simp only[f8];omega⟩
def mC(T:kb)(t:TI)(p:List Nat)(o:Xd)(d:Nat)(D s:AV)(k:List Nat->Nat->Xb->Prop):Prop:=match t.tk with
 |.slice e=>match gq T e with
  |some te=>match D with
   |.nils=>ck (Nat.ble te.bytes 128) (tp o s te.size λm g r=>Side (tq te.bytes 0 m g) (k (d::r) m [(d,some (.arr m te.size g e))]))
   |.emp=>ck (Nat.ble te.bytes 128) (tp o s te.size λm g r=>Side (0<m/\tq te.bytes 0 m g) (k (d::r) m [(d,some (.arr m te.size g e))]))
   |.icap n sz1 get1=>ck (Nat.ble te.bytes 128&&Nat.beq sz1 te.size) (tp o s te.size λm g r=>Side (0<m/\tq te.bytes n m g) (k (d::r) (n+m) [(d,some (.arr (n+m) te.size (λi=>bif Nat.blt i n then get1 i else g (i-n)) e))]))
   |.osl id n=>match o id with
    | some (.arr m1 sz1 get1 e1)=>ck (Nat.ble te.bytes 128 && (Nat.beq sz1 te.size && (Nat.beq e1 e && !p.elem id))) (tp o s te.size fun m g r=>Side (n<=m1/\tq te.bytes n m g)
      (k (d::id::r) (n+m) [(d,some (.arr (n+m) te.size (λi=>bif Nat.blt i n then get1 i else g (i-n)) e)),(id,some .dead)]))
    |_=>False
   |_=>False
  |none=>False
 |_=>False
theorem tr(hT:fK P T){op:Oper}{t:Nat}{x y:Operand}(ho:op.op=.call { callee:=.builtin .append,args:=#[x,y],argTypes:=#[t,t] }){d:Nat}{A:St}(hg:lk ops op A.s)(hd:co X.nt op)(hid:A.o d=none)
  {ti:TI} (hti:TiOk P t ti) {v u:AV} (hv:cm A.s x=some v) (hu:cm A.s y=some u) {k:List Nat->Nat->Xb->Prop} (h:mC T ti X.pid A.o d v u k) :
  ∃V n wo,k V n wo/\bD P X ops op A.s A.o (dj ops op (di x++di y) V (.osl d n) wo):=by
 unfold mC at h;split at h
 .rename_i e R;have hund:=hti.slice R;split at h
  .rename_i l hte;have hte:=hT e l hte
   --the Q, for both
   have Q:∀(old:List Nat) (n m:Nat) (f G:Nat->List AV) (V:List Nat),Nat.ble l.bytes 128=true->Src A.o u m l.size G V->tq l.bytes n m G->
     ((old=[]/\v=.nils/\n=0)\/(old=[]/\v=.emp/\n=0/\0<m)\/(old=[]/\v=.icap n l.size f/\0<m)\/∃id m1,old=[id]/\v=.osl id n/\A.o id=some (.arr m1 l.size f e)/\n<=m1/\id∉X.pid)->
     bD P X ops op A.s A.o (dj ops op (di x++di y) (d::old++V) (.osl d (n+m)) ((d,some (.arr (n+m) l.size (λi=>bif Nat.blt i n then f i else G (i-n)) e))::old.map λi=>(i,some .dead))):=by
    intro old n m f G V E I s hold;obtain⟨hby,hmx⟩:=AE E s;refine cT hg hd λs' o' hs hoo ρ Im a w hr=>?_;have hv':cm s' x=some v:=(ay λk R=>hs k (by simp[R])).trans hv;have hu':cm s' y=some u:=(ay λk R=>hs k (by simp[R])).trans hu;have hdo:o' d=none:=(hoo d ν).trans hid;have hsrc':Src o' u m l.size G V:=I.congr λi K=>hoo i (by simp[K]);obtain⟨hms,hread,hnm⟩:=hsrc'.read hr.toMem (hr.opd hu')
    --what is appended
    have hnews:∃N:List Value,N.length=m*l.size/\((a.eval y=.slice none 0 0/\m=0)\/∃ad c,a.eval y=.slice (some ad) m c/\∀j z,N[j]? =some z->w.cell? (ad.add j)=some z)/\
      (∀i,i<m->(G i).length=l.size)/\(∀(i j:Nat) (c:AV) (z:Value),i<m->(G i)[j]? =some c->N[i*l.size+j]? =some z->Con ρ Im w.heap c z):=by
     rcases hread with⟨e1,hm0⟩|⟨b,off,cap,arr,T',fr,e1,hb,hfit,hlen,hc⟩
     .subst hm0;obtain⟨p,e1⟩:=e1;cases p with
      |none=>exact⟨[],by simp,.inl ⟨e1,rfl⟩,λi K=>Z,λi j c z K=>Z⟩
      |some q=>exact⟨[],by simp,.inr ⟨q,0,e1,λj z hz=>by simp at hz⟩,λi K=>Z,λi j c z K=>Z⟩
     .refine⟨(arr.toList.drop off).take (m*l.size),by simp;omega,.inr ⟨_,cap,e1,λj z hz=>?_⟩,hlen,Ck hfit hc⟩;rw[Addr.add_lit,cell_of_row w b _ arr T' fr hb];rw[List.getElem?_take]at hz;split at hz
      .simpa using hz
      .cases hz
    obtain⟨N,hnl,hsv,hl2,hnc⟩:=hnews;have hone:∀z∈N,z.oneCell'=true:=by
     intro z hz;obtain⟨p,hp,rfl⟩:=List.mem_iff_getElem.1 hz;have hsz0:0<l.size:=by
      rcases Nat.eq_zero_or_pos l.size with h0|h0
      .rw[h0,Nat.mul_zero]at hnl;omega
      .exact h0
     have hq:p/l.size<m:=by
      rw[Nat.div_lt_iff_lt_mul hsz0];omega
     have hr':p%l.size<l.size:=Nat.mod_lt _ hsz0;have hlen:=hl2 _ hq;have e2:p/l.size*l.size+p%l.size=p:=by rw[Nat.mul_comm];exact Nat.div_add_mod p l.size
     have hcc:=hnc (p/l.size) (p%l.size) ((G (p/l.size))[p%l.size]'Z) (N[p]) hq ν (by rw[e2];simp);exact hcc.oneCell (k6 (s.2 _ hq) _ ν)
    --what it is appended to
    have hall:∃(o:Option Nat) (O:Array Value) (B:Option Nat) (C:Nat) (W:World),(Builtin.append_ #[t,t] op.type #[a.eval x,a.eval y]).run P w=.ok (.slice (B.map λb=>⟨b,0,none⟩) (n+m) C) W/\
      ((B=none/\n+m=0/\C=0)\/∃(g':Nat) (cur':Array Value),B=some g'/\W.heap[g']? =some (.cells cur' e (0,0))/\n+m<=C/\C<=maxLen/\cur'.size=C*l.size/\
       (∀j,j<n*l.size->cur'[j]? =O[j]?)/\(∀j,j<m*l.size->cur'[n*l.size+j]? =N[j]?)/\(o=some g'\/g'=w.heap.size))/\
      (W.os=w.os/\W.tape=w.tape/\W.output=w.output/\w.heap.size<=W.heap.size/\∀b,b<w.heap.size->o≠some b->W.heap[b]? =w.heap[b]?)/\
      (∀(i j:Nat) (c:AV) (z:Value),i<n->(f i)[j]? =some c->O[i*l.size+j]? =some z->Con ρ Im w.heap c z)/\(∀i,i<n->(f i).length=l.size)/\
      ((old=[]/\o=none/\∀i,i<n->∀c∈f i,∀k,¬Names k c)\/∃id m1,old=[id]/\o' id=some (.arr m1 l.size f e)/\n<=m1/\id∉X.pid/\(ρ id).1=o):=by
     suffices fin:(∃(o:Option Nat) (cap:Nat) (O:Array Value),a.eval x=.slice (o.map fun b=>⟨b,0,none⟩) n cap/\((o=none/\n=0/\cap=0)\/∃g,o=some g/\w.heap[g]? =some (.cells O e (0,0))/\n<=cap/\cap<=maxLen/\O.size=cap*l.size)/\
       (∀(i j:Nat) (c:AV) (z:Value),i<n->(f i)[j]? =some c->O[i*l.size+j]? =some z->Con ρ Im w.heap c z)/\(∀i,i<n->(f i).length=l.size)/\
       ((old=[]/\o=none/\∀i,i<n->∀c∈f i,∀k,¬Names k c)\/∃id m1,old=[id]/\o' id=some (.arr m1 l.size f e)/\n<=m1/\id∉X.pid/\(ρ id).1=o))\/(old=[]/\v=.emp/\n=0/\0<m)\/(old=[]/\v=.icap n l.size f/\0<m) by
      rcases fin with⟨o,cap,O,he,hdd,hc1,hl1,S⟩|⟨rfl,rfl,rfl,r⟩|⟨rfl,rfl,r⟩
      .obtain⟨B,C,W,D,F,L⟩:=qW hund hte op.type o n cap O hdd (a.eval y) m N hnl hsv hone hby hmx;rw[<-he]at D;exact⟨o,O,B,C,W,D,F,L,hc1,hl1,S⟩
      .obtain⟨p,hp⟩:=(hr.opd hv').emp_inv;obtain⟨B,C,W,D,F,L⟩:=qX hund hte op.type p #[] (a.eval y) m N hnl hsv (by simpa using hby) Z r;rw[<-hp]at D;exact⟨none,#[],B,C,W,D,F,L,λi j c z K=>Z,λi K=>Z,.inl ⟨rfl,rfl,λi K=>Z⟩⟩
      .obtain⟨b,off,arr,T',fr,hp,him,hb,hsz,hn,hbd,hfit,hci⟩:=(hr.opd hv').icap_inv;obtain ⟨B,C,W,D,F,L⟩:=qY hund hte op.type ⟨b,off,none⟩ n ((arr.toList.drop off).take (n * l.size)) (by simp;omega) (fun j z hz=>by
        rw[Addr.add_lit,cell_of_row w b _ arr T' fr hb];rw[List.getElem?_take]at hz;split at hz
        .simpa using hz
        .cases hz) (a.eval y) m N hnl hsv hby hmx r
       rw[<-hp]at D;refine⟨none,((arr.toList.drop off).take (n*l.size)).toArray,B,C,W,D,F,L,λi j c z K h1 h2=>Ck hfit (λi j c z h1 h2 h3=>.imm _ _ (hci i j c z h1 h2 h3)) i j c z K h1 (by simpa using h2),hsz,.inl ⟨rfl,rfl,λi K c hc k R=>?_⟩⟩;obtain⟨j,hj,rfl⟩:=List.mem_iff_getElem.1 hc;have hle:(i+1)*l.size<=n*l.size:=Nat.mul_le_mul_right _ K;have hadd:(i+1)*l.size=i*l.size+l.size:=Nat.succ_mul i l.size;have hlen:=hsz i K;exact(hci i j _ (arr[off+i*l.size+j]'Z) K ν ν).noNames k R
     rcases hold with⟨rfl,rfl,rfl⟩|⟨rfl,rfl,rfl,r⟩|⟨rfl,rfl,r⟩|⟨id,m1,rfl,rfl,hob,hle,hp⟩
     .exact .inl ⟨none,0,#[],(hr.opd hv').nils_inv,.inl ⟨rfl,rfl,rfl⟩,λi j c z K=>Z,λi K=>Z,.inl ⟨rfl,rfl,λi K=>Z⟩⟩
     .exact .inr (.inl ⟨rfl,rfl,rfl,r⟩)
     .exact .inr (.inr ⟨rfl,rfl,r⟩)
     .have hob':o' id=some (.arr m1 l.size f e):=(hoo id ν).trans hob;obtain⟨hbd,hne,hnc,he⟩:=(hr.opd hv').osl_inv;have hobc:=hr.objs id _ hob';cases hobc with
      |arr0 _ _ _ hρ=>
       have:n=0:=Z;subst this;exact .inl ⟨none,0,#[],by simp[he,hρ],.inl ⟨rfl,rfl,rfl⟩,λi j c z K=>Z,λi K=>Z,.inr ⟨id,0,rfl,hob',hle,hp,by rw[hρ]⟩⟩
      |arr _ _ _ _ b xs hρ hh hn hcap hxs hbd' hsz hc=>
       exact .inl ⟨some b,(ρ id).2,xs,by rw[he,hρ],.inr ⟨b,rfl,hh,hnc,hcap,hxs⟩,λi j c z K h1 h2=>hc i j c z Z h1 h2,λi K=>hsz i Z,.inr ⟨id,m1,rfl,hob',hle,hp,hρ⟩⟩
    obtain⟨o,O,B,C,W,D,F,⟨hos,htape,hout,hsize,hblk⟩,hc1,hl1,S⟩:=hall;have hrel:=hr.append hdo S hc1 hl1 hnc hl2 hnm hmx F hos htape hout hsize hblk;have hex:(execOp a.eval op).run P w=.ok (.value (.slice (B.map λb=>⟨b,0,none⟩) (n+m) C)) W:=by
     simp[execOp,ho,resolve,invoke,builtin,D]
    unfold Oper.wp;rw[hex];refine⟨_,_,Im,rfl,hrel,?_,λi K=>?_⟩
    .have:=Con.osl (ρ:=ρ.set d (B,C)) (Im:=Im) (H:=W.heap) d (n + m) hmx (fun hne=>by
      rw[Loc.set_same];rcases F with⟨_,h0,_⟩|⟨g',_,rfl,_⟩
      .exact absurd h0 hne
      .simp) (by
      rw[Loc.set_same];rcases F with⟨_,h0,h1⟩|⟨g',_,rfl,_,hle,_⟩
      .show n+m<=C;omega
      .exact hle)
     rw[Loc.set_same]at this;exact this
    .cases K;simp[gw]
   split at h
   .obtain⟨E,h⟩:=be h;obtain⟨m,G,V,⟨s,R⟩,I⟩:=jF h;have:=Q [] 0 m (λ_=>[]) G V E I s (.inl ⟨rfl,rfl,rfl⟩);have e1:(λi=>bif Nat.blt i 0 then([]:List AV)else G (i-0))=G:=by
     funext i;have:Nat.blt i 0=false:=by cases hb:Nat.blt i 0 with
      |true=>simp[Nat.blt_eq]at hb
      |false=>rfl
     rw[this];simp
    simp only[e1,Nat.zero_add,List.map_nil]at this;exact⟨_,_,_,R,this⟩
   .obtain⟨E,h⟩:=be h;obtain⟨m,G,V,⟨⟨r,s⟩,R⟩,I⟩:=jF h;have:=Q [] 0 m (λ_=>[]) G V E I s (.inr (.inl ⟨rfl,rfl,rfl,r⟩));have e1:(λi=>bif Nat.blt i 0 then([]:List AV)else G (i-0))=G:=by
     funext i;have:Nat.blt i 0=false:=by cases hb:Nat.blt i 0 with
      |true=>simp[Nat.blt_eq]at hb
      |false=>rfl
     rw[this];simp
    simp only[e1,Nat.zero_add,List.map_nil]at this;exact⟨_,_,_,R,this⟩
   .rename_i n sz1 f;obtain⟨hb,h5⟩:=be h;simp only[Bool.and_eq_true]at hb;obtain⟨E,h2⟩:=hb;have h2:=Nat.eq_of_beq_eq_true h2;subst h2;obtain⟨m,G,V,⟨⟨r,s⟩,R⟩,I⟩:=jF h5;have:=Q [] n m f G V E I s (.inr (.inr (.inl ⟨rfl,rfl,r⟩)));exact⟨_,_,_,R,this⟩
   .split at h
    .rename_i id n _ m1 sz1 f e1 hob;obtain⟨hb,h⟩:=be h;simp only[Bool.and_eq_true,Bool.not_eq_true']at hb;obtain⟨E,h2,h3,h4⟩:=hb;obtain⟨m,G,V,⟨⟨h1,s⟩,R⟩,I⟩:=jF h;have h2:=Nat.eq_of_beq_eq_true h2;have h3:=Nat.eq_of_beq_eq_true h3;subst h2;subst h3;have hp:id∉X.pid:=by
      intro hm;rw[List.elem_eq_true_of_mem hm]at h4;cases h4
     have:=Q [id] n m f G V E I s (.inr (.inr (.inr ⟨id,m1,rfl,rfl,hob,h1,hp⟩)));exact⟨_,_,_,R,this⟩
    .exact h.elim
   .exact h.elim
  .exact h.elim
 .exact h.elim
end
end Go.Nc