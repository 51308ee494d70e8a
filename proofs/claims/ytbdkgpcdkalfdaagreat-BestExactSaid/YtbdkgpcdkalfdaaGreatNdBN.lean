/- Parts. -/
import Derived.Test.YtbdkgpcdkalfdaaGreatNdBM
import GoSem.Instr.MapUpdate
import GoSem.Instr.MakeMap
import GoSem.Instr.Index
import GoSem.Instr.MakeInterface
import GoSem.Builtin.Clear
import Derived.Laws.StructEq
import Derived.Laws.Pointers
namespace Go.Nc
def fh(p:Nat->Option (Nat×Nat)):List AV->List (Nat×AV)->Option (List AV)
 |cs,[]=>some cs
 |cs,(i,v)::r=>match p i with
  |some (off,sz)=>match Nat.beq v.cellsL.length sz&&Nat.ble (off+sz) cs.length&&fU v.cellsL with
   |true=>fh p (mg off v.cellsL cs) r
   |false=>none
  |none=>none
def fH(s:Nat->Option AV):List (Nat×Operand)->Option (List (Nat×AV))
 |[]=>some []
 |(i,x)::r=>match cm s x with
  |some v=>match fH s r with
   |some vs=>some ((i,v)::vs)
   |none=>none
  |none=>none
def nD:List (Nat×Operand)->List Nat
 |[]=>[]
 |(_,x)::r=>di x++nD r
theorem jd{s s':Nat->Option AV}:∀{l:List (Nat×Operand)},(∀k∈nD l,s' k=s k)->fH s' l=fH s l
 |[],_=>rfl
 |(i,x)::r,h=>by
  simp only[fH,nD]at *;rw[ay (s:=s) (s':=s') λk H=>h k (by simp[H]),jd (s:=s) (s':=s') λk H=>h k (by simp[H])]
section
variable {P:Program} {X:Frm} {ops:Array Oper} {T:kb}
theorem yQ(o:Nat):∀(l:List Value) (k:Nat) (x:Array Value),o+k+l.length<=x.size->
  ((l.zipIdx k).foldl (λcs (p:Value×Nat)=>cs.setIfInBounds (o+p.2) p.1) x)=s0 (o+k) l x
 |[],k,x,h=>by
  apply Array.ext_getElem?;intro j;rw[fM (by simpa using h)];simp;intro d e;omega
 |v::r,k,x,h=>by
  simp only[List.zipIdx_cons,List.foldl_cons];have a:o+(k+1)+r.length<=(x.setIfInBounds (o+k) v).size:=by simp at h⊢;omega
  rw[yQ o r (k+1) _ a];apply Array.ext_getElem?;intro j;rw[fM (by simpa using a),fM (by simpa using h)];by_cases c:j=o+k
  .subst c;have H:o+k<x.size:=by simp at h;omega
   rw[if_neg Z,if_pos ν];simp[H]
  .by_cases b:o+(k+1)<=j/\j<o+(k+1)+r.length
   .rw[if_pos b,if_pos (by simp;omega)];rw[(Z:j-(o+k)=(j-(o+(k+1)))+1)];simp
   .rw[if_neg b,if_neg (by simp;omega)];rw[Array.getElem?_setIfInBounds_ne Z]
theorem tt{B:Nat->Option (Nat×Nat)}{ρ:Loc}{Im:Nat->Prop}{H:eZ}:∀(ps:List (Nat×AV)) (V:List (Nat×Value)) (cs:List AV) (d:Array Value) (C:List AV),
  V.length=ps.length->(∀(i:Nat) (p:Nat×AV) (q:Nat×Value),ps[i]? =some p->V[i]? =some q->q.1=p.1/\Con ρ Im H p.2 q.2)->Cons ρ Im H cs d->fh B cs ps=some C->
  ∃f,Instr.fill B d V=some f/\Cons ρ Im H C f
 |[],[],cs,d,C,_,_,hc,hf=>by
  simp only[fh,Option.some.injEq]at hf;subst hf;exact⟨d,rfl,hc⟩
 |[],_::_,_,_,_,hl,_,_,_=>by simp at hl
 |_::_,[],_,_,_,hl,_,_,_=>by simp at hl
 |(i, v)::ps,(i',u)::V,cs,d,C,hl,hp,hc,hf=>by
  obtain⟨E,y⟩:=hp 0 (i,v) (i',u) rfl rfl;simp only at E;subst E;simp only[fh]at hf;cases hpl:B i' with
  |none=>simp[hpl]at hf
  |some q=>
   obtain⟨o,sz⟩:=q;simp only[hpl]at hf;cases hb:(Nat.beq v.cellsL.length sz&&Nat.ble (o+sz) cs.length&&fU v.cellsL)with
   |false=>simp[hb]at hf
   |true=>
    simp only[hb]at hf;simp only[Bool.and_eq_true]at hb;obtain⟨⟨n,t⟩,D⟩:=hb;have n:=Nat.eq_of_beq_eq_true n;have t:=Nat.le_of_ble_eq_true t;have k:=jb y (nU D);have s:u.cells.size=sz:=by rw[k.1];exact n
    have a:o+u.cells.toList.length<=d.size:=by rw[hc.1];simp;omega
    have r:o+v.cellsL.length<=cs.length:=Z;have m:Cons ρ Im H (mg o v.cellsL cs) (s0 o u.cells.toList d):=by
     refine⟨by rw[jc a,jE r,hc.1],λj c x e b=>?_⟩;rw[xh r]at e;rw[fM a]at b;have A:u.cells.toList.length=v.cellsL.length:=by simp[k.1]
     rw[A]at b;split at e
     .rename_i h;rw[if_pos h]at b;exact k.2 _ c x e (by simpa using b)
     .rename_i h;rw[if_neg h]at b;exact hc.2 j c x e b
    obtain⟨f,z,w⟩:=tt ps V _ _ C (by simpa using hl) (λj p q n t=>hp (j+1) p q (by simpa using n) (by simpa using t)) m hf;refine⟨f,?_,w⟩;have l:u.cells.zipIdx.foldl (λcs (p:Value×Nat)=>cs.setIfInBounds (o+p.2) p.1) d=s0 o u.cells.toList d:=by
     rw[<-Array.foldl_toList,Array.toList_zipIdx];have:=yQ o u.cells.toList 0 d (by simpa using a);simpa using this
    have g:¬(d.size<o+u.cells.size):=by simp at a;omega
    simp only[Instr.fill,hpl,s,ne_eq,not_true_eq_false,decide_false,Bool.false_or,decide_eq_true_eq];rw[s]at g;simp only[gt_iff_lt,g,if_false];rw[l];exact z
theorem RelAt.parts{ρ:Loc}{Im:Nat->Prop}{s:Nat->Option AV}{o:Xd}{a:Act}{w:World}(h:RelAt X ρ Im s o a w):∀{l:List (Nat×Operand)} {V:List (Nat×AV)},fH s l=some V->
  (l.length=V.length)/\(∀(i:Nat) (p:Nat×AV) (q:Nat×Value),V[i]? =some p->(l.map λy=>(y.1,a.eval y.2))[i]? =some q->q.1=p.1/\Con ρ Im w.heap p.2 q.2)/\∀p∈V,∀i,Names i p.2->o i≠none
 |[],V,hv=>by
  simp only[fH,Option.some.injEq]at hv;subst hv;exact⟨rfl,by simp,by simp⟩
 |(i, x)::r,V,hv=>by
  simp only[fH]at hv;cases hx:cm s x with
  |none=>simp[hx]at hv
  |some v=>
   cases hr:fH s r with
   |none=>simp[hx,hr]at hv
   |some us=>
    simp only[hx,hr,Option.some.injEq]at hv;subst hv;obtain⟨b,c,d⟩:=RelAt.parts h hr;refine⟨by simp[b],λj p q H hq=>?_,λp H=>?_⟩
    .cases j with
     |zero=>
      simp at H hq;subst H;subst hq;exact⟨rfl,h.opd hx⟩
     |succ j=>exact c j p q (by simpa using H) (by simpa using hq)
    .rcases List.mem_cons.1 H with rfl|H
     .exactλi e=>h.opdN hx e
     .exact d p H
theorem mD{d:Nat->Option (Nat×Nat)}:∀(ps:List (Nat×AV)) (cs C:List AV),fh d cs ps=some C->∀c∈C,c∈cs\/∃p∈ps,∀i,Names i c->Names i p.2
 |[],cs,C,h,c,hc=>by
  simp only[fh,Option.some.injEq]at h;subst h;exact .inl hc
 |(i, v)::ps,cs,C,h,c,hc=>by
  simp only[fh]at h;split at h
  .split at h
   .rcases mD ps _ _ h c hc with H|⟨p,b,H⟩
    .rcases oI H with H|H
     .refine .inr ⟨(i,v),by simp,λk a=>?_⟩;unfold AV.cellsL at H;split at H
      .exact .agg _ c H a
      .simp at H;subst H;exact a
     .exact .inl H
    .exact .inr ⟨p,by simp[b],H⟩
   .cases h
  .cases h
theorem oJ{t:Nat}{d:TI}(b:TiOk P t d){z:Value}(f:z.cells.toList=d.zero.map AV.conc)(ρ:Loc)(Im:Nat->Prop)(H:eZ):Cons ρ Im H d.zero z.cells:=by
 have a:=b.plain;rw[List.all_eq_true]at a;refine⟨by have:=congrArg List.length f;simpa using this,λj c x e g=>?_⟩;have h:z.cells.toList[j]? =some x:=by simpa using g
 rw[f,List.getElem?_map,e]at h;simp only[Option.map_some,Option.some.injEq]at h;subst h;exact .imm _ _ (AV.plain_con (a c (List.mem_of_getElem? e)) _ _)
def Cl:List (Nat×Nat)->Bool
 |[]=>true
 |p::r=>Nat.blt 0 p.2&&Cl r
def rC(T:kb)(t:TI)(ps:List (Nat×AV))(k:AV->Prop):Prop:=match t.tk with
 | .struct=>ck (Cl t.flds) (match fh (fun i=>t.flds[i]?) t.zero ps with
  |some cs=>k (.agg cs)
  |none=>False)
 |.arr _ e=>match gq T e with
  |some te=>match fh (λi=>some (i*te.size,te.size)) t.zero ps with
   |some cs=>k (.agg cs)
   |none=>False
  |none=>False
 |_=>False
theorem uY(hT:fK P T){O:Oper}{t:Nat}{b:Array (Nat×Operand)}(ho:O.op=.build t b){A:St}(hg:lk ops O A.s)(hd:co X.nt O){G:TI}(g:TiOk P t G){ps:List (Nat×AV)}(hv:fH A.s b.toList=some ps){k:AV->Prop}
  (h:rC T G ps k):∃u,k u/\bD P X ops O A.s A.o (dj ops O (nD b.toList) [] u):=by
 have q:∀(pl:Nat->Option (Nat×Nat)) (cs:List AV),fh pl G.zero ps=some cs->(∀(N:List (Nat×Value)) (z:Value) (i:TypeInfo) (C:Array Value),P.info? t=some i->i.zero=some z->Instr.fill pl z.cells N=some C->P.built t N=some C)->
   bD P X ops O A.s A.o (dj ops O (nD b.toList) [] (.agg cs)):=by
  intro pl cs H m;refine bh hg hd λs' hs o' ρ Im a w S=>?_;have W:fH s' b.toList=some ps:=(jd hs).trans hv;obtain⟨h1,h2,h3⟩:=S.parts W;obtain⟨i,z,s,_,_,F,hzc,_⟩:=g.info;obtain⟨x,hx,hc⟩:=tt ps (b.toList.map λy=>(y.1,a.eval y.2)) G.zero z.cells cs (by simpa using h1) h2 (oJ g hzc ρ Im w.heap) H;have E:=run_build (P:=P) w t (b.map fun (p:Nat × Operand)=>(p.1,a.eval p.2)) x (by
   have:=m _ z i x s F hx;simpa using this)
  refine⟨⟨.agg x,?_,.agg cs x hc.1 hc.2⟩,λj K=>?_⟩
  .simp[execOp,ho,E]
  .cases K with
   |agg _ c hm K=>
    rcases mD ps _ _ H c hm with h|⟨p,hp,h⟩
    .have o:=g.plain;rw[List.all_eq_true]at o;exact absurd K (AV.plain_names (o c h) j)
    .exact h3 p hp j (h j K)
 unfold rC at h;split at h
 .rename_i R;obtain⟨d,h⟩:=be h;split at h
  .rename_i cs I;refine⟨_,h,q _ cs I λN z i C s F H=>?_⟩;obtain⟨fs,L,B⟩:=g.struct R;have o:fs.toList.mapM (λf=>(P.info? f.type).map λi=>(f.offset,i.size))=some G.flds:=by
    rw[<-B]at d⊢;clear I H B L;generalize fs.toList=l at *;induction l with
    |nil=>rfl
    |cons f r ih=>
     simp only[List.map_cons,Cl,Bool.and_eq_true]at d;have S:=ih d.2;have D:0<P.cellsOf f.type:=by simpa[Nat.blt_eq]using d.1
     unfold Program.cellsOf at D;cases s:P.info? f.type with
     |none=>simp[s]at D
     |some i=>simp[List.mapM_cons,s,S,Program.cellsOf]
   unfold Program.built;simp only[s,L,F,o];rw[<-H];congr 1;funext j;simp
  .exact h.elim
 .rename_i n e R;split at h
  .rename_i te v;have v:=hT e te v;split at h
   .rename_i cs I;refine⟨_,h,q _ cs I λN z i C s F H=>?_⟩;have L:=g.arr R;obtain⟨ie,ze,Q,V,_⟩:=v.info;unfold Program.built;simp only[s,L,F,Q,V];exact H
   .exact h.elim
  .exact h.elim
 .exact h.elim
def f0:Nat->List AV->List AV
 |0,_=>[]
 |n+1,z=>z++f0 n z
theorem k7(n:Nat)(z:List AV):(f0 n z).length=n*z.length:=by
 induction n with
 |zero=>simp[f0]
 |succ n ih=>simp[f0,ih,Nat.succ_mul];omega
theorem yR{c:AV}:∀(n:Nat) (z:List AV),c∈f0 n z->c∈z
 |0,z,h=>by simp[f0]at h
 |n+1,z,h=>by
  simp only[f0,List.mem_append]at h;rcases h with h|h
  .exact h
  .exact yR n z h
theorem tu:∀(n:Nat) (z:List AV) (i j:Nat),i<n->j<z.length->(f0 n z)[i*z.length+j]? =z[j]?
 |0,_,_,_,h,_=>Z
 |n+1,z,0,j,_,hj=>by simp[f0,List.getElem?_append_left hj]
 |n+1,z,i+1,j,hi,hj=>by
  simp only[f0];rw[List.getElem?_append_right (by rw[Nat.succ_mul];omega)];rw[show(i+1)*z.length+j-z.length=i*z.length+j by rw[Nat.succ_mul];omega];exact tu n z i j Z hj
theorem F0(z:Array Value)(n i j:Nat)(b:i<n)(a:j<z.size):(madeCells z (n*z.size))[i*z.size+j]? =z[j]?:=by
 have H:i*z.size+j<n*z.size:=by
  have:(i+1)*z.size<=n*z.size:=Nat.mul_le_mul_right _ b;rw[Nat.succ_mul]at this;omega
 have h:(i*z.size+j)%z.size=j:=by
  rw[Nat.mul_comm,Nat.mul_add_mod,Nat.mod_eq_of_lt a]
 simp[madeCells,H,h,a]
theorem uZ{e:Nat}{t:TI}(a:TiOk P e t){z:Value}(m:z.cells.toList=t.zero.map AV.conc)(n:Nat)(ρ:Loc)(Im:Nat->Prop)(H:eZ):Cons ρ Im H (f0 n t.zero) (madeCells z.cells (n*t.size)):=by
 have i:=oJ a m ρ Im H;have d:z.cells.size=t.size:=by rw[i.1,a.zlen]
 refine⟨by rw[size_madeCells,k7,a.zlen],λp c x j l=>?_⟩;have b:=(List.getElem?_eq_some_iff.1 j).1;rw[k7,a.zlen]at b;have f:0<t.size:=by
  rcases Nat.eq_zero_or_pos t.size with h|h
  .rw[h,Nat.mul_zero]at b;omega
  .exact h
 have hq:p/t.size<n:=by rw[Nat.div_lt_iff_lt_mul f];exact b
 have k:=Nat.mod_lt p f;have E:p/t.size*t.size+p%t.size=p:=by rw[Nat.mul_comm];exact Nat.div_add_mod p t.size
 have g:=tu n t.zero (p/t.size) (p%t.size) hq (by rw[a.zlen];exact k);rw[a.zlen,E,j]at g;have G:=F0 z.cells n (p/t.size) (p%t.size) hq (by rw[d];exact k);rw[d,E,l]at G;exact i.2 _ c x g.symm G.symm
theorem vd{O:Oper}{d:Nat}{A:St}(C:lk ops O A.s)(B:co X.nt O)(q:A.o d=none){R:List Nat}{n sz e:Nat}{g:Nat->List AV}(t:n<=f8)
  (h:∀s',(∀k∈R,s' k=A.s k)->∀(o':Xd) ρ Im a w,RelAt X ρ Im s' o' a w->
   (∃m,(execOp a.eval O).run P w=.ok (.value (.slice (some ⟨w.heap.size,0,none⟩) n n)) (w.alloc (.cells m e))/\m.size=n*sz/\(∀i,i<n->(g i).length=sz)/\
    ∀(i j:Nat) (c:AV) (x:Value),i<n->(g i)[j]? =some c->m[i*sz+j]? =some x->Con ρ Im w.heap c x)/\∀i,i<n->∀c∈g i,∀k,Names k c->o' k≠none) :
  bD P X ops O A.s A.o (dj ops O R [d] (.osl d n) [(d,some (.arr n sz g e))]):=by
 refine cT C B λs' o' G F ρ Im a w u=>?_;obtain⟨⟨m,p,E,r,z⟩,o⟩:=h s' G o' ρ Im a w u;have l:o' d=none:=(F d ν).trans q;unfold Oper.wp;rw[p];have s:n<=maxLen:=by simp only[f8,maxLen]at t⊢;omega
 refine⟨_,ρ.set d (some w.heap.size,n),Im,rfl,u.new l (.cells m e) n (.arr n sz g e) ?_ (λi f=>?_),?_,λi f=>?_⟩
 .refine .arr n sz g e w.heap.size m (by rw[Loc.set_same]) (heap_alloc_new w _) (by rw[Loc.set_same];exact π _) (by rw[Loc.set_same];exact s) (by rw[Loc.set_same];exact E) t r λi j c x f v y=>?_;exact((z i j c x f v y).mono (λb hb=>hb) λb hb=>heap_alloc_old w _ b (u.imlt b hb)).reloc λk D=>Loc.set_ne _ _ λe=>o i f c (List.mem_of_getElem? v) k D (by rw[e];exact l)
 .cases f with
  |arr _ _ _ _ i' c hi' hm f=>exact o i' hi' c hm i f
 .have:=Con.osl (ρ:=ρ.set d (some w.heap.size,n)) (Im:=Im) (H:=(w.alloc (.cells m e)).heap) d n t (λ_=>by rw[Loc.set_same];simp) (by rw[Loc.set_same];exact π _);rw[Loc.set_same]at this;exact this
 .cases f;simp[gw]
def AF(T:kb)(t:TI)(l c:AV)(k:Nat->LObj->Prop):Prop:=match t.tk with
 |.slice e=>match gq T e with
  |some te=>match l,c with
   |.int .i64 n,.int .i64 m=>ck (Nat.ble te.bytes 128) (Side (n=m/\0<=n/\n<=1099511627776) (k n.toNat (.arr n.toNat te.size (λ_=>te.zero) e)))
   |_,_=>False
  |none=>False
 |_=>False
theorem xj(hT:fK P T){O:Oper}{t:Nat}{x y:Operand}(ho:O.op=.makeSlice t x y){d:Nat}{A:St}(hg:lk ops O A.s)(hd:co X.nt O)(D:A.o d=none){V:TI}(G:TiOk P t V){v u:AV}(hv:cm A.s x=some v)(hu:cm A.s y=some u){k:Nat->LObj->Prop}
  (h:AF T V v u k):∃n ob,k n ob/\bD P X ops O A.s A.o (dj ops O (di x++di y) [d] (.osl d n) [(d,some ob)]):=by
 unfold AF at h;split at h
 .rename_i e f;have p:=G.slice f;split at h
  .rename_i g H;have H:=hT e g H;split at h
   .rename_i n m;replace h:=be h;obtain⟨s,⟨rfl,N,h1⟩,h⟩:=h;have s:=Nat.le_of_ble_eq_true s;obtain⟨q,rfl⟩:=ζ N;simp only[β]at h;refine⟨_,_,h,vd hg hd D (by simp only[f8];omega) λs' R o' ρ Im a w Q=>?_⟩;have K:cm s' x=some _:=(ay λk f=>R k (by simp[f])).trans hv;have I:cm s' y=some _:=(ay λk f=>R k (by simp[f])).trans hu;obtain⟨i,z,hi,F,B,hz,L,_⟩:=H.info;have hb:(i.bytes:Int)*(q:Int)<=281474976710656:=by
     rw[B];have:g.bytes*q<=128*1099511627776:=Nat.mul_le_mul s Z;have r:((g.bytes*q:Nat):Int)<=281474976710656:=Z;rwa[Int.natCast_mul]at r
    have b:=run_make (P:=P) w t e i z p hi hz .i64 .i64 q q N (Int.le_refl _) hb Z;rw[F]at b;simp only[β]at b;have C:=uZ H L q ρ Im w.heap;refine⟨⟨madeCells z.cells (q*g.size),?_,size_madeCells _ _,λ_ _=>H.zlen,λS j c x' l r W=>?_⟩,λS l c hc k f=>?_⟩
    .simp[execOp,ho,(Q.opd K).int_inv,(Q.opd I).int_inv,b]
    .have E:j<g.zero.length:=(List.getElem?_eq_some_iff.1 r).1;have:=tu q g.zero S j l E;rw[H.zlen,r]at this;exact C.2 _ c x' this W
    .have o:=H.plain;rw[List.all_eq_true]at o;exact absurd f (AV.plain_names (o c hc) k)
   .exact h.elim
  .exact h.elim
 .exact h.elim
def Ks(T:kb)(t:TI)(len:Nat)(ps:List (Nat×AV))(k:LObj->Prop):Prop:=match t.tk with
 |.slice e=>match gq T e with
  | some te=>ck (Nat.ble len 1000 && Nat.ble te.size 100) (match fh (fun i=>some (i*te.size,te.size)) (f0 len te.zero) ps with
   |some cs=>k (.arr len te.size (λi=>(cs.drop (i*te.size)).take te.size) e)
   |none=>False)
  |none=>False
 |_=>False
theorem oK{p:Nat->Option (Nat×Nat)}:∀(ps:List (Nat×AV)) (cs c:List AV),fh p cs ps=some c->c.length=cs.length
 |[],cs,c,h=>by simp only[fh,Option.some.injEq]at h;rw[h]
 |(i, v)::ps,cs,c,h=>by
  simp only[fh]at h;split at h
  .split at h
   .rename_i o sz _ hb;rw[oK ps _ _ h];simp only[Bool.and_eq_true]at hb;have H:=Nat.eq_of_beq_eq_true hb.1.1;have a:=Nat.le_of_ble_eq_true hb.1.2;exact jE Z
   .cases h
  .cases h
theorem AG(hT:fK P T){O:Oper}{t len:Nat}{b:Array (Nat×Operand)}(N:O.op=.buildSlice t len b){d:Nat}{A:St}(hg:lk ops O A.s)(hd:co X.nt O)(E:A.o d=none){Q:TI}(F:TiOk P t Q){ps:List (Nat×AV)}(hv:fH A.s b.toList=some ps){k:LObj->Prop}
  (h:Ks T Q len ps k):∃ob,k ob/\bD P X ops O A.s A.o (dj ops O (nD b.toList) [d] (.osl d len) [(d,some ob)]):=by
 unfold Ks at h;split at h
 .rename_i e r;have l:=F.slice r;split at h
  .rename_i f H;have H:=hT e f H;obtain⟨hb,h⟩:=be h;simp only[Bool.and_eq_true]at hb;obtain⟨u,v⟩:=hb;have u:=Nat.le_of_ble_eq_true u;have v:=Nat.le_of_ble_eq_true v;split at h
   .rename_i cs B;have hcl:=oK _ _ _ B;rw[k7,H.zlen]at hcl;have S:∀i,i<len->((cs.drop (i*f.size)).take f.size).length=f.size:=by
     intro i C;have:(i+1)*f.size<=len*f.size:=Nat.mul_le_mul_right _ C;rw[Nat.succ_mul]at this;simp;omega
    refine⟨_,h,vd hg hd E (by simp only[f8];omega) λs' hs o' ρ Im a w hr=>?_⟩;have G:fH s' b.toList=some ps:=(jd hs).trans hv;obtain⟨V,W,g3⟩:=hr.parts G;obtain⟨i,z,C,hsz,hby,hz,I,_⟩:=H.info;obtain⟨K,s,L⟩:=tt ps (b.toList.map λy=>(y.1,a.eval y.2)) (f0 len f.zero) (madeCells z.cells (len*f.size)) cs (by simpa using V) W (uZ H I len ρ Im w.heap) B;have g:¬len*f.size>2 ^ 24:=by
     have:len*f.size<=1000*100:=Nat.mul_le_mul u v;omega
    refine⟨⟨K,?_,by rw[L.1,hcl],S,λi' j c x' D n h4=>?_⟩,λi' D c x k r=>?_⟩
    .by_cases m:len*f.size=0
     .have R:madeCells z.cells (len*f.size)= #[]:=by rw[m];simp[madeCells]
      rw[R]at s;simp[execOp,N,Instr.buildSlice,run_underlying l,H.sizeOf,m,newRow,Array.range_zero',s]
     .simp only[madeCells]at s;simp[execOp,N,Instr.buildSlice,run_underlying l,H.sizeOf,g,m,zeroValue,typeInfo,C,hz,newRow,s]
    .rw[List.getElem?_take]at n;split at n
     .rw[List.getElem?_drop]at n;exact L.2 _ c x' n h4
     .cases n
    .have o:c∈cs:=List.mem_of_mem_drop (List.mem_of_mem_take x);rcases mD ps _ _ B c o with h|⟨p,hp,h⟩
     .have q:=H.plain;rw[List.all_eq_true]at q;have:c∈f.zero:=yR len _ h;exact absurd r (AV.plain_names (q c this) k)
     .exact g3 p hp k (h k r)
   .exact h.elim
  .exact h.elim
 .exact h.elim
end
def qZ(key:AV):List (AV×AV)->Nat->Option (Option (Nat×AV))
 |[],_=>some none
 |(k,v)::r,i=>match key,k with
  |.int .i64 a,.int .i64 b=>if a=b then some (some (i,v))else qZ key r (i+1)
  |.str a,.str b=>if a=b then some (some (i,v))else qZ key r (i+1)
  |_,_=>none
def rd(t:TK)(key:AV):Bool:=match t,key with
 |.int .i64,.int .i64 _=>true
 |.str,.str _=>true
 |_,_=>false
def xk:AV->TypeDesc
 |.int .i64 _=>.int .i64
 |_=>.string
section
variable {P:Program} {X:Frm} {ops:Array Oper} {T:kb} {ρ:Loc} {Im:Nat->Prop} {H:eZ}
def FRel(ρ:Loc)(Im:Nat->Prop)(H:eZ)(K:List (AV×AV))(E:List MapEntry)(a:Value)(i:Nat):Option (Nat×AV)->Option (Nat×Value)->Prop
 |none,none=>True
 |some (j,v),some (j',x)=>j=j'/\Con ρ Im H v x/\∃k e,i<=j/\K[j-i]? =some (k,v)/\E[j-i]? =some e/\e.key=a
 |_,_=>False
theorem FRel.up{k:List (AV×AV)}{E:List MapEntry}{K:Value}{i:Nat}{p:AV×AV}{e:MapEntry}{r:Option (Nat×AV)}{q:Option (Nat×Value)}(h:FRel ρ Im H k E K (i+1) r q):FRel ρ Im H (p::k) (e::E) K i r q:=by
 rcases r with _|⟨j,v⟩<;>rcases q with _|⟨n,x⟩<;>simp only[FRel]at h⊢;obtain⟨b,c,l,a,m,d,f,g⟩:=h;refine⟨b,c,l,a,Z,?_,?_,g⟩
 .rw[(Z:j-i=(j-(i+1))+1)];simpa using d
 .rw[(Z:j-i=(j-(i+1))+1)];simpa using f
theorem Cm(a b:ByteArray):(a==b)=decide (a=b):=by
 have:(a==b)=(a.data==b.data):=rfl;rw[this];by_cases h:a=b
 .subst h;simp
 .have:a.data≠b.data:=λe=>h (ByteArray.ext e);simp[h,this]
theorem Cn(a b:Int):(a==b)=decide (a=b):=by
 by_cases h:a=b
 .subst h;simp
 .simp[h]
theorem oL{key:AV}{u:TK}(s:rd u key=true){p:Value}(o:Con ρ Im H key p):∀(K:List (AV×AV)) (E:List MapEntry) (i:Nat) (r:Option (Nat×AV)),
  E.length=K.length->(∀(j:Nat) (k v:AV) (e:MapEntry),K[j]? =some (k,v)->E[j]? =some e->Con ρ Im H k e.key/\Con ρ Im H v e.val)->qZ key K i=some r->
  ∃q,Instr.findNow (xk key) p E i=some q/\FRel ρ Im H K E p i r q
 |[],[],i,r,_,_,h=>by
  simp only[qZ,Option.some.injEq]at h;subst h;exact⟨none,rfl,trivial⟩
 |[],_::_,_,_,hl,_,_=>by simp at hl
 |_::_,[],_,_,hl,_,_=>by simp at hl
 |(k, v)::K,e::E,i,r,hl,hc,h=>by
  obtain⟨m,n⟩:=hc 0 k v e rfl rfl;have I:=λt=>oL s o K E (i+1) r (by simpa using hl) (λj k v e g l=>hc (j+1) k v e (by simpa using g) (by simpa using l)) t;unfold qZ at h;split at h
  .rename_i a b;have f:=o.int_inv;have d:=m.int_inv;subst f;by_cases c:a=b
   .rw[if_pos c]at h;cases h;subst c;exact⟨some (i,e.val),by simp only[Instr.findNow,Instr.sameNow,xk,d,Cn];simp,rfl,n,.int .i64 a,e,π _,by simp,by simp,d⟩
   .rw[if_neg c]at h;obtain⟨q,g,l⟩:=I h;refine⟨q,?_,l.up⟩;rw[<-g];simp only[Instr.findNow,Instr.sameNow,xk,d,Cn,c,decide_false,if_true]
  .rename_i a b;have f:=o.str_inv;have d:=m.str_inv;subst f;by_cases c:a=b
   .rw[if_pos c]at h;cases h;subst c;exact⟨some (i,e.val),by simp only[Instr.findNow,Instr.sameNow,xk,d,Cm];simp,rfl,n,.str a,e,π _,by simp,by simp,d⟩
   .rw[if_neg c]at h;obtain⟨q,g,l⟩:=I h;refine⟨q,?_,l.up⟩;rw[<-g];simp only[Instr.findNow,Instr.sameNow,xk,d,Cm,c,decide_false]
  .cases h
theorem ve{k:Nat}{t:TI}(a:TiOk P k t){key:AV}(b:rd t.tk key=true):P.underlying k=some (xk key):=by
 unfold rd at b;split at b
 .rename_i h;rw[a.int h];rfl
 .rename_i h;rw[a.str h];rfl
 .cases b
theorem je{k:Nat}{t:TI}(a:TiOk P k t){key:AV}(h:rd t.tk key=true)(b:Bool)(x:Value)(w:World):(Instr.checkKey b 10000 k x).run P w=.ok () w:=by
 have c:=ve a h;rw[show(10000:Nat)=9999+1 from rfl];unfold Instr.checkKey;rw[Sem.run_bind,run_underlying c];unfold rd at h;split at h<;>first|rfl|cases h
theorem k8{k:Nat}{t:TI}(a:TiOk P k t){key:AV}(b:rd t.tk key=true){K:Value}{e:List MapEntry}{q:Option (Nat×Value)}(h:Instr.findNow (xk key) K e 0=some q)(w:World) :
  (Instr.findKey k K e).run P w=.ok q w:=by
 unfold Instr.findKey;rw[Sem.run_bind,run_underlying (ve a b)];simp only[Result.andThen_ok,h];rfl
theorem mE{w:World}{r:Nat}{e:Array MapEntry}{c:Nat}(hb:w.heap[r]? =some (.map e c)):(getObj r).run P w=.ok (.map e c) w:=by simp[getObj,Sem.run,hb]
theorem rD{w:World}{r:Nat}{e:Array MapEntry}{c:Nat}(o:Obj)(hb:w.heap[r]? =some (.map e c)):(setObj r o).run P w=.ok () { w with heap:=w.heap.setIfInBounds r o }:=by simp[setObj,Sem.run,hb]
theorem Con.mref_inv{id:Nat}{x:Value}(h:Con ρ Im H (.mref id) x):∃b,x=.map (some b)/\(ρ id).1=some b:=by
 cases h with
 |imm _ _ hi=>cases hi
 |mref _ b hb=>exact⟨b,rfl,hb⟩
theorem rg{o:Oper}{t:Nat}(n:o.op=.makeMap t none){d:Nat}{A:St}(m:lk ops o A.s)(l:co X.nt o)(g:A.o d=none) :
  bD P X ops o A.s A.o (dj ops o [] [d] (.mref d) [(d,some (.map []))]):=by
 refine cT m l λs' o' q j ρ Im a w p=>?_;have b:o' d=none:=(j d ν).trans g;have c:(execOp a.eval o).run P w=.ok (.value (.map (some w.heap.size))) (w.alloc (.map #[] 0)):=by simp[execOp,n,Instr.makeMap,newObj,Sem.run]
 unfold Oper.wp;rw[c];refine⟨_,ρ.set d (some w.heap.size,0),Im,rfl,p.new b (.map #[] 0) 0 (.map []) ?_ (λi f=>?_),.mref d _ (by rw[Loc.set_same]),λi f=>?_⟩
 .exact .map [] w.heap.size #[] 0 (by rw[Loc.set_same]) (heap_alloc_new w _) rfl (λi k v e h=>by simp at h)
 .cases f with
  |mapK _ k v hm h=>simp at hm
  |mapV _ k v hm h=>simp at hm
 .cases f;simp[gw]
structure VLook(key:AV)(kvs:List (AV×AV))(k:Option (Nat×AV)->Prop):Prop where
 ex:∃r,qZ key kvs 0=some r/\k r
def Pi(o:Bool)(v:AV)(b:Bool):AV:=match o with
 |true=>.tup [v,.bool b]
 |false=>v
def lkA(o:Bool)(z:AV):Option (Nat×AV)->AV
 |some (_,v)=>Pi o v true
 |none=>Pi o z false
def Px(o:Bool)(z:Value):Option (Nat×Value)->Value
 |some (_,v)=>if o then .tuple #[v,.bool true]else v
 |none=>if o then .tuple #[z,.bool false]else z
theorem Co{o b:Bool}{u:AV}{val:Value}(d:Con ρ Im H u val):Con ρ Im H (Pi o u b) (if o then .tuple #[val,.bool b]else val):=by
 cases o with
 |false=>exact d
 |true=>
  refine .tup _ _ rfl λi c x h a=>?_;match i,h,a with
  |0,h,a=>simp at h a;subst h;subst a;exact d
  |1,h,a=>simp at h a;subst h;subst a;exact .imm _ _ (.bool _)
  |i+2,h,a=>simp at h
theorem vf{o b:Bool}{u:AV}{i:Nat}(h:Names i (Pi o u b)):Names i u:=by
 cases o with
 |false=>exact h
 |true=>
  cases h with
  |tup _ c hm h=>
   simp at hm;rcases hm with rfl|rfl
   .exact h
   .cases h
def mF(T:kb)(t:TI)(o:Xd)(m key:AV)(O:Bool)(k:List Nat->AV->Prop):Prop:=match t.tk with
 |.map kt et=>match gq T kt,gq T et with
  |some tk,some te=>match te.zero with
   |[z]=>match m with
    |.mref id=>match o id with
     |some (.map kvs)=>ck (rd tk.tk key&& !te.agg) (VLook key kvs λr=>k [id] (lkA O z r))
     |_=>False
    |_=>False
   |_=>False
  |_,_=>False
 |_=>False
theorem F1{t:Nat}{c:TI}(h:TiOk P t c){z:AV}(g:c.zero=[z])(j:c.agg=false)(w:World):(zeroValue t).run P w=.ok z.conc w:=by
 obtain⟨i,d,f,_,_,b,a,e⟩:=h.info;have:d=z.conc:=by
  rw[g]at a;cases d<;>simp_all[uQ,Value.cells]
 subst this;simp[zeroValue,typeInfo,f,b]
theorem tv(W:fK P T){o:Oper}{t:Nat}{x y:Operand}{V:Bool}(ho:o.op=.lookup t x y V){A:St}(hg:lk ops o A.s)(hd:co X.nt o){ti:TI}(R:TiOk P t ti){m key:AV}(hm:cm A.s x=some m)(f:cm A.s y=some key)
  {k:List Nat->AV->Prop} (h:mF T ti A.o m key V k):∃ro v,k ro v/\bD P X ops o A.s A.o (dj ops o (di x++di y) ro v):=by
 unfold mF at h;split at h
 .rename_i kt et S;split at h
  .rename_i tk te G Q;split at h
   .rename_i z hz;split at h
    .rename_i id;split at h
     .rename_i K N;obtain⟨hb,⟨r,C,F⟩⟩:=be h;simp only[Bool.and_eq_true,Bool.not_eq_true']at hb;have l:TiOk P kt tk:=W _ _ G;have g:TiOk P et te:=W _ _ Q;have n:z.plain=true:=by have:=g.plain;rw[hz]at this;simpa using this
      refine⟨_,_,F,?_⟩;refine cU hg hd λs' o' hs L ρ Im a w s=>?_;have I:cm s' x=some (.mref id):=(ay λk f=>hs k (by simp[f])).trans hm;have D:cm s' y=some key:=(ay λk f=>hs k (by simp[f])).trans f;have d:o' id=some (.map K):=(L id ν).trans N;obtain⟨b,hx,B⟩:=(s.opd I).mref_inv;have O:=s.objs id _ d;cases O with
      |map _ b2 es clock h1 h2 h3 h4=>
       rw[B]at h1;cases h1;obtain⟨q,hq,c⟩:=oL hb.1 (s.opd D) K es.toList 0 r (by simpa using h3) (λj k v e h5 h6=>h4 j k v e h5 (by simpa using h6)) C;have p:(execOp a.eval o).run P w=.ok (.value (Px V z.conc q)) w:=by
        simp only[execOp,ho,hx,Instr.lookup];simp only[Sem.run_bind,run_underlying (R.map S),Result.andThen_ok,mE h2,Sem.run_pure,je l hb.1,k8 l hb.1 hq];rcases q with _|⟨j,u⟩
        .simp only[Sem.run_bind,F1 g hz hb.2,Result.andThen_ok,Sem.run_pure,Px]
        .simp only[Px];rfl
       refine⟨⟨_,p,?_⟩,λi hi=>?_⟩
       .rcases r with _|⟨j,u⟩<;>rcases q with _|⟨j',val⟩<;>simp only[FRel]at c
        .exact Co (.imm _ _ (AV.plain_con n _ _))
        .exact Co c.2.1
       .rcases r with _|⟨j,u⟩<;>rcases q with _|⟨j',val⟩<;>simp only[FRel]at c
        .exact absurd (vf hi) (AV.plain_names n i)
        .obtain⟨_,hcu,k2,e2,_,E,_⟩:=c;exact s.ocl id _ d i (.mapV _ k2 u (List.mem_of_getElem? E) (vf hi))
     .exact h.elim
    .exact h.elim
   .exact h.elim
  .exact h.elim
 .exact h.elim
def Kh(key v:AV)(k:List (AV×AV)):Option (Nat×AV)->List (AV×AV)
 |some (i,_)=>k.set i (key,v)
 |none=>k++[(key,v)]
def k9(T:kb)(t:TI)(o:Xd)(m key v:AV)(k:Nat->LObj->Prop):Prop:=match t.tk with
 |.map kt _=>match gq T kt with
  |some tk=>match m with
   |.mref id=>match o id with
    |some (.map kvs)=>ck (rd tk.tk key) (VLook key kvs λr=>k id (.map (Kh key v kvs r)))
    |_=>False
   |_=>False
  |_=>False
 |_=>False
theorem kW(w:World)(g:Nat)(x y:Obj)(h:w.heap[g]? =some x):(w.heap.setIfInBounds g y)[g]? =some y:=by
 simp[(Array.getElem?_eq_some_iff.1 h).1]
theorem oM(w:World)(g b:Nat)(y:Obj)(h:b≠g):(w.heap.setIfInBounds g y)[b]? =w.heap[b]?:=by
 simp[Array.getElem?_setIfInBounds_ne (Ne.symm h)]
theorem RelAt.writeO{s:Nat->Option AV}{o:Xd}{a:Act}{w:World}(h:RelAt X ρ Im s o a w){id:Nat}{ob O:LObj}(k:o id=some ob)(t:ob.live=true)(x:ob.isRec=false){b:Nat}(hb:(ρ id).1=some b)
  (y:Obj) (p:ObjCon ρ Im (w.heap.setIfInBounds b y) id O) (F:∀i,NamesO i O->o i≠none):RelAt X ρ Im s (gw [(id,some O)] o) a { w with heap:=w.heap.setIfInBounds b y }:=by
 have m:∀i,i≠id->gw [(id,some O)] o i=o i:=λi g=>by simp[gw,g]
 have n:∀i,o i≠none->gw [(id,some O)] o i≠none:=λi g=>by
  by_cases e:i=id
  .subst e;simp[gw]
  .rw[m i e];exact g
 have d:=h.own id ob b k t hb;refine h.upd (λi=>i=id) rfl rfl rfl ν (λC D v=>oM w b C y (λe=>v id ob rfl k t (by rw[e];exact hb))) (λi _=>rfl) (λi g=>m i g) n (λi q g c=>?_) (λi q g c=>by rw[g,k]at c;cases c;exact x);subst g;have:q=O:=by simp[gw]at c;exact c.symm
 subst this;refine⟨p,λj E=>n j (F j E),λ_ B f=>?_,λ_ B f I z l u r=>?_⟩
 .rw[hb]at f;cases f;exact⟨d.1,by simpa using d.2.1,d.2.2⟩
 .by_cases A:I=i
  .exact A
  .rw[m I A]at l;exact h.inj I i z ob B l u k t r f
theorem vg{t:TK}{key:AV}(h:rd t key=true){x:Value}(a:Con ρ Im H key x):Instr.sameBits 10000 x x=true:=by
 unfold rd at h;split at h
 .cases a.int_inv;simp[Instr.sameBits]
 .cases a.str_inv;simp[Instr.sameBits,Cm]
 .cases h
theorem kX(hT:fK P T){O:Oper}{t:Nat}{x y z:Operand}(G:O.op=.mapUpdate t x y z\/O.op=.insert t x y z){A:St}(hg:lk ops O A.s)(hd:co X.nt O){ti:TI}(hti:TiOk P t ti){m key v:AV}(f:cm A.s x=some m)(L:cm A.s y=some key)(hv:cm A.s z=some v)
  {k:Nat->LObj->Prop} (h:k9 T ti A.o m key v k):∃id ob,k id ob/\bD P X ops O A.s A.o (dj ops O (di x++di y++di z) [id] .junk [(id,some ob)]):=by
 unfold k9 at h;split at h
 .rename_i kt et htk;split at h
  .rename_i tk hkt;split at h
   .rename_i id;split at h
    .rename_i F hob;obtain⟨hb,⟨r,hfr,hkk⟩⟩:=be h;have D:TiOk P kt tk:=hT _ _ hkt;refine⟨_,_,hkk,?_⟩;refine cT hg hd λs' o' hs ho' ρ Im a w n=>?_;have hm':cm s' x=some (.mref id):=(ay λk L=>hs k (by simp[L])).trans f;have B:cm s' y=some key:=(ay λk L=>hs k (by simp[L])).trans L;have E:cm s' z=some v:=(ay λk L=>hs k (by simp[L])).trans hv;have l:o' id=some (.map F):=(ho' id ν).trans hob;obtain⟨b,hx,s⟩:=(n.opd hm').mref_inv;have hoc:=n.objs id _ l;have N:=(n.own id _ b l rfl s).1;cases hoc with
     |map _ b2 es clock h1 h2 h3 h4=>
      rw[s]at h1;cases h1;obtain⟨q,hq,W⟩:=oL hb (n.opd B) F es.toList 0 r (by simpa using h3) (λj k v e o p=>h4 j k v e o (by simpa using p)) hfr;have d:∀{y:Obj} {c:AV} {z:Value},Con ρ Im w.heap c z->Con ρ Im (w.heap.setIfInBounds b y) c z:=λhcy=>hcy.mono (λb hb=>hb) λb2 hb2=>oM w b b2 _ λe=>N (e▸hb2);rcases r with _|⟨j,u⟩<;>rcases q with _|⟨j',val⟩<;>simp only[FRel]at W
      .have C:(execOp a.eval O).run P w=.ok .skip { w with heap:=w.heap.setIfInBounds b (.map (es.push { key:=a.eval y,val:=a.eval z,born:=clock }) (clock+1)) }:=by
        rcases G with G|G<;>
        .simp only[execOp,G,hx,Instr.mapUpdate];simp only[Sem.run_bind,run_underlying (hti.map htk),Result.andThen_ok,mE h2,Sem.run_pure,je D hb,k8 D hb hq,rD _ h2]
       unfold Oper.wp;rw[C];refine⟨undef,ρ,Im,rfl,n.writeO l rfl rfl s _ ?_ (λi g=>?_),.imm _ _ (.junk _),λi g=>by cases g⟩
       .refine .map _ b _ (clock+1) s (kW w b _ _ h2) (by simp[Kh,h3]) λi K V e o p=>?_;simp only[Kh]at o;by_cases hlt:i<F.length
        .rw[List.getElem?_append_left hlt]at o;rw[Array.getElem?_push,if_neg Z]at p;exact⟨d (h4 i K V e o p).1,d (h4 i K V e o p).2⟩
        .have g:i=F.length:=by
          have:=(List.getElem?_eq_some_iff.1 o).1;simp at this;omega
         subst g;simp at o;rw[Array.getElem?_push,if_pos h3.symm]at p;cases p;obtain⟨rfl,rfl⟩:=o;exact⟨d (n.opd B),d (n.opd E)⟩
       .simp only[Kh]at g;cases g with
        |mapK _ K V f g=>
         rcases List.mem_append.1 f with f|f
         .exact n.ocl id _ l i (.mapK _ K V f g)
         .simp at f;rw[f.1]at g;exact n.opdN B g
        |mapV _ K V f g=>
         rcases List.mem_append.1 f with f|f
         .exact n.ocl id _ l i (.mapV _ K V f g)
         .simp at f;rw[f.2]at g;exact n.opdN E g
      .obtain⟨rfl,_,K,e2,_,S,Q,hke⟩:=W;simp only[Nat.sub_zero]at S Q;have hsb:=vg hb (n.opd B);have R:es[j]? =some e2:=by simpa using Q
       have C:(execOp a.eval O).run P w=.ok .skip { w with heap:=w.heap.setIfInBounds b (.map (es.modify j λe=>{ e with key:=a.eval y,val:=a.eval z }) clock) }:=by
        rcases G with G|G<;>
        .simp only[execOp,G,hx,Instr.mapUpdate];simp only[Sem.run_bind,run_underlying (hti.map htk),Result.andThen_ok,mE h2,Sem.run_pure,je D hb,k8 D hb hq,R,Option.map_some,Option.getD_some,hke,Instr.keyThatStays,hsb,if_true,rD _ h2]
       unfold Oper.wp;rw[C];refine⟨undef,ρ,Im,rfl,n.writeO l rfl rfl s _ ?_ (λi g=>?_),.imm _ _ (.junk _),λi g=>by cases g⟩
       .refine .map _ b _ clock s (kW w b _ _ h2) (by simp[Kh,h3]) λi k3 v3 e o p=>?_;simp only[Kh]at o;rw[Array.getElem?_modify]at p;by_cases I:j=i
        .subst I;rw[if_pos rfl,R]at p;simp only[Option.map_some,Option.some.injEq]at p;subst p;rw[List.getElem?_set_self (List.getElem?_eq_some_iff.1 S).1]at o;simp at o;obtain⟨rfl,rfl⟩:=o;exact⟨d (n.opd B),d (n.opd E)⟩
        .rw[if_neg I]at p;rw[List.getElem?_set_ne I]at o;exact⟨d (h4 i k3 v3 e o p).1,d (h4 i k3 v3 e o p).2⟩
       .simp only[Kh]at g;cases g with
        |mapK _ K V f g=>
         rcases List.mem_or_eq_of_mem_set f with f|f
         .exact n.ocl id _ l i (.mapK _ K V f g)
         .simp at f;rw[f.1]at g;exact n.opdN B g
        |mapV _ K V f g=>
         rcases List.mem_or_eq_of_mem_set f with f|f
         .exact n.ocl id _ l i (.mapV _ K V f g)
         .simp at f;rw[f.2]at g;exact n.opdN E g
    .exact h.elim
   .exact h.elim
  .exact h.elim
 .exact h.elim
def rE(x I:AV)(k:AV->Prop):Prop:=match x,I with
 |.str s,.int _ i=>Side (0<=i/\i<s.size) (k (.int .u8 (s.get! i.toNat).toNat))
 |_,_=>False
theorem vj{o:Oper}{t:Nat}{x y:Operand}(F:o.op=.index t x y){A:St}(C:lk ops o A.s)(B:co X.nt o){p:TI}(f:TiOk P t p)(e:p.tk=.str){u v:AV}(G:cm A.s x=some u)(I:cm A.s y=some v){k:AV->Prop}(h:rE u v k) :
  ∃r,k r/\bD P X ops o A.s A.o (dj ops o (di x++di y) [] r):=by
 unfold rE at h;split at h
 .rename_i s K i;obtain⟨⟨z,L⟩,c⟩:=h;refine⟨_,c,cU C B λs' o' n _ ρ Im a w m=>?_⟩;have g:cm s' x=some (.str s):=(ay λk c=>n k (by simp[c])).trans G;have l:cm s' y=some (.int K i):=(ay λk c=>n k (by simp[c])).trans I;have E:=(m.opd g).str_inv;have q:=(m.opd l).int_inv;have d:i.toNat<s.size:=Z;have b:s[i.toNat]? =some (s.get! i.toNat):=by
   simp[getElem?_pos,d,ByteArray.get!];rfl
  refine⟨⟨.int .u8 (s.get! i.toNat).toNat,?_,.imm _ _ (.int _ _)⟩,λj D=>by cases D⟩;simp only[execOp,F,E,q,Instr.index,asIntOf];simp only[Sem.run_bind,Sem.run_pure,run_underlying (f.str e),Result.andThen_ok,if_pos z,b]
 .exact h.elim
def rF(T:kb)(e n:Nat)(x I:AV)(k:AV->Prop):Prop:=match gq T e,x,I with
 |some te,.agg cs,.int _ i=>match te.agg with
  |false=>match Nat.beq te.size 1,cs[i.toNat]? with
   |true,some c=>Side (0<=i/\i<n) (k c)
   |_,_=>False
  |true=>match Nat.ble (i.toNat*te.size+te.size) cs.length with
   |true=>Side (0<=i/\i<n) (k (.agg ((cs.drop (i.toNat*te.size)).take te.size)))
   |false=>False
 |_,_,_=>False
theorem Cp{ρ:Loc}{Im:Nat->Prop}{H:eZ}{cs:List AV}{d:Array Value}(e:d.size=cs.length)(h:∀(i:Nat) (c:AV) (x:Value),cs[i]? =some c->d[i]? =some x->Con ρ Im H c x)(o sz:Nat)(hb:o+sz<=cs.length) :
  Con ρ Im H (.agg ((cs.drop o).take sz)) (.agg (d.extract o (o+sz))):=by
 refine .agg _ _ (by simp;omega) λi c x a b=>?_;rw[List.getElem?_take]at a;split at a
 .rw[List.getElem?_drop]at a;rw[Array.getElem?_extract]at b;split at b
  .exact h (o+i) c x a b
  .cases b
 .cases a
theorem vk{O:Oper}{t:Nat}{x y:Operand}(V:O.op=.index t x y){A:St}(R:lk ops O A.s)(Q:co X.nt O){T:kb}(N:fK P T){ti:TI}(z:TiOk P t ti){n e:Nat}(s:ti.tk=.arr n e){u v:AV}(W:cm A.s x=some u)(hv:cm A.s y=some v){k:AV->Prop}(h:rF T e n u v k) :
  ∃r,k r/\bD P X ops O A.s A.o (dj ops O (di x++di y) [] r):=by
 unfold rF at h;split at h
 .rename_i C cs kk i b;split at h
  .rename_i g;split at h
   .rename_i c hb I;obtain⟨⟨F,G⟩,d⟩:=h;have L:C.size=1:=Nat.eq_of_beq_eq_true hb;have b:=N _ _ b;refine⟨_,d,cU R Q λs' o' q _ ρ Im a w m=>?_⟩;have f:cm s' x=some (.agg cs):=(ay λk d=>q k (by simp[d])).trans W;have o:cm s' y=some (.int kk i):=(ay λk d=>q k (by simp[d])).trans hv;obtain⟨B,D,S,l⟩:=(m.opd f).agg_inv;have E:=(m.opd o).int_inv;have hlt:i.toNat<cs.length:=(List.getElem?_eq_some_iff.1 I).1;have hx:B[i.toNat]? =some (B[i.toNat]'Z):=by simp
    refine⟨⟨B[i.toNat]'Z,?_,l i.toNat c _ I hx⟩,λj p=>m.opdN f (.agg _ c (List.mem_of_getElem? I) p)⟩;simp only[execOp,V,D,E,Instr.index,asIntOf];simp only[Sem.run_bind,Sem.run_pure,run_underlying (z.arr s),Result.andThen_ok,if_pos (And.intro F G),part,b.sizeOf,b.isAgg,L,g,Nat.mul_one,hx];rfl
   .exact h.elim
  .rename_i g;split at h
   .rename_i hb;obtain⟨⟨F,G⟩,d⟩:=h;have K:=Nat.le_of_ble_eq_true hb;have b:=N _ _ b;refine⟨_,d,cU R Q λs' o' q _ ρ Im a w m=>?_⟩;have f:cm s' x=some (.agg cs):=(ay λk d=>q k (by simp[d])).trans W;have o:cm s' y=some (.int kk i):=(ay λk d=>q k (by simp[d])).trans hv;obtain⟨B,D,S,l⟩:=(m.opd f).agg_inv;have E:=(m.opd o).int_inv;refine⟨⟨.agg (B.extract (i.toNat*C.size) (i.toNat*C.size+C.size)),?_,Cp S l _ _ K⟩,λj p=>?_⟩
    .simp only[execOp,V,D,E,Instr.index,asIntOf];simp only[Sem.run_bind,Sem.run_pure,run_underlying (z.arr s),Result.andThen_ok,if_pos (And.intro F G),part,b.sizeOf,b.isAgg,g,if_true]
    .cases p with
     |agg _ c hm p=>exact m.opdN f (.agg _ c (List.mem_of_mem_drop (List.mem_of_mem_take hm)) p)
   .exact h.elim
 .exact h.elim
theorem vn{o:Oper}{t:Nat}{x:Operand}(n:o.op=.makeInterface t x){A:St}(k:lk ops o A.s)(i:co X.nt o){g:TI}(c:TiOk P t g)(f:match g.tk with |.other=>False|_=>True){v:AV}(r:cm A.s x=some v)(l:∀(ρ:Loc) (Im:Nat->Prop) (H:eZ) (y:Value),Con ρ Im H v y->ConI Im H v y) :
  bD P X ops o A.s A.o (dj ops o (di x) [] (.iface t v)):=by
 refine cU k i λs' o' q _ ρ Im a w p=>?_;have e:cm s' x=some v:=(ay q).trans r;refine⟨⟨.iface t (a.eval x),?_,.imm _ _ (.iface _ _ _ (l _ _ _ _ (p.opd e)))⟩,λj m=>by cases m⟩;obtain⟨d,b,h,_⟩:=c.und;simp only[execOp,n,Instr.makeInterface];simp only[Sem.run_bind,run_underlying b,Result.andThen_ok];cases d<;>simp only[TK.of]at h<;>first|rfl|(rw[<-h]at f;exact f.elim)
def rG(T:kb)(t:TI)(o:Xd)(x:AV)(k:Nat->LObj->Prop):Prop:=match t.tk with
 |.slice e=>match gq T e with
  |some te=>match x with
   |.osub id off n sz=>match o id with
    | some (.arr m sz' get e')=>ck (Nat.beq sz' sz && (Nat.beq te.size sz && fU te.zero)) (Side (n=1/\off<m)
      (k id (.arr m sz' (λi=>bif Nat.beq i off then te.zero else get i) e')))
    |_=>False
   |_=>False
  |none=>False
 |_=>False
theorem tw(z:Array Value):Builtin.zeroCells z 1=z:=by
 apply Array.ext
 .simp[Builtin.zeroCells]
 .intro i a h;simp[Builtin.zeroCells,Nat.mod_eq_of_lt h,h]
theorem vo(hT:fK P T){Q:Oper}{t:Nat}{x:Operand}(ho:Q.op=.call { callee:=.builtin .clear,args:=#[x],argTypes:=#[t] }){A:St}(hg:lk ops Q A.s)(hd:co X.nt Q){ti:TI}(hti:TiOk P t ti){v:AV}(hv:cm A.s x=some v){k:Nat->LObj->Prop}
  (h:rG T ti A.o v k):∃id ob,k id ob/\bD P X ops Q A.s A.o (dj ops Q (di x) [id] .junk [(id,some ob)]):=by
 unfold rG at h;split at h
 .rename_i e N;have hund:=hti.slice N;split at h
  .rename_i F l;have l:=hT e F l;split at h
   .rename_i id o n sz;split at h
    .rename_i m s get e' hob;obtain⟨hb,⟨rfl,hlt⟩,N⟩:=be h;simp only[Bool.and_eq_true]at hb;obtain⟨h1,h2,h3⟩:=hb;obtain rfl:s=sz:=Nat.eq_of_beq_eq_true h1;have h2:=Nat.eq_of_beq_eq_true h2;refine⟨id,_,N,cT hg hd λs' o' hs ho' ρ Im a w hr=>?_⟩;have hv':cm s' x=some (.osub id o 1 s):=(ay λk N=>hs k (by simp[N])).trans hv;have d:o' id=some (.arr m s get e'):=(ho' id ν).trans hob;obtain⟨cap,p,hp,ex⟩:=(hr.opd hv').osub_inv;obtain⟨b,E,rfl⟩:=hp η;obtain⟨i,z,R,hsz,hby,hz,hzc,_⟩:=l.info;have L:Cons ρ Im w.heap F.zero z.cells:=oJ l hzc ρ Im w.heap;have hzl:z.cells.toList.length=F.zero.length:=by simp[L.1]
     have hzs:F.zero.length=s:=l.zlen.trans h2;have V:∀u∈z.cells.toList,u.oneCell'=true:=λu hu=>by
      obtain⟨i,R,rfl⟩:=List.mem_iff_getElem.1 hu;have hi2:i<F.zero.length:=by rw[<-hzl];exact R
      exact(L.2 i F.zero[i] _ ν ν).oneCell (k6 h3 _ ν)
     have hown:=hr.own id _ b d rfl E;have S:=hr.objs id _ d;cases S with
     |arr0=>omega
     |arr _ _ _ _ b' xs hρ hh hn hcap hxs hbd hszg hc=>
      obtain rfl:b=b':=by rw[E]at hρ;exact Option.some.inj hρ
      have hle:(o+1)*s<=(ρ id).2*s:=Nat.mul_le_mul_right _ Z;have hadd:(o+1)*s=o*s+s:=Nat.succ_mul o s;have r:o*s+z.cells.toList.length<=xs.size:=Z;have hst:=run_storeCells_at P b (o*s) e' z.cells.toList 0 xs w hh (by simpa using r) V;simp only[Nat.add_zero]at hst;unfold Oper.wp;have hzv:(zeroValue e).run P w=.ok z w:=by simp[zeroValue,typeInfo,R,hz]
      have he:(execOp a.eval Q).run P w=.ok (.value (.tuple #[])) (w.setRow b (s0 (o*s) z.cells.toList xs)):=by
       simp[execOp,ho,resolve,invoke,builtin,Builtin.clear_,ex,run_underlying hund,hzv,tw,hst,s0]
      rw[he];have hnm:∀c∈F.zero,∀k,¬Names k c:=λc hc k N=>by
       have hpl:=l.plain;rw[List.all_eq_true]at hpl;exact absurd N (AV.plain_names (hpl c hc) k)
      refine⟨_,ρ,Im,rfl,hr.write d rfl rfl hρ _ ?_ (λq hq=>?_),.imm _ _ (.junk _),λi R=>by cases R⟩
      .have hH':=fB w b xs (s0 (o*s) z.cells.toList xs) e' (0,0) hh;have hne:∀G,G≠b->(w.setRow b (s0 (o*s) z.cells.toList xs)).heap[G]? =w.heap[G]?:=λG K=>eJ w b G _ K;refine .arr m s _ e' b _ hρ hH' hn hcap (by rw[jc r];exact hxs) hbd (λI j=>?_) λI O c y j f D=>?_
       .simp only[aJ];split
        .exact hzs
        .exact hszg I j
       .have C:∀{c:AV} {y:Value},Con ρ Im w.heap c y->Con ρ Im (w.setRow b (s0 (o*s) z.cells.toList xs)).heap c y:=λhcy=>hcy.mono (λb hb=>hb) λG K=>hne G λe=>hown.1 (e▸K);rw[fM r,hzl]at D;simp only[aJ]at f;split at f
        .rename_i B;subst B;have hj:=(List.getElem?_eq_some_iff.1 f).1;rw[if_pos Z,(Z:I*s+O-I*s=O)]at D;exact C (L.2 _ c y f (by simpa using D))
        .rename_i B;have hj0:O<s:=by
          have:=(List.getElem?_eq_some_iff.1 f).1;have:=hszg I j;omega
         have W:¬(o*s<=I*s+O/\I*s+O<o*s+F.zero.length):=by
          rintro⟨g1,g2⟩;rcases Nat.lt_or_gt_of_ne B with g|g
          .have:(I+1)*s<=o*s:=Nat.mul_le_mul_right _ g;rw[Nat.succ_mul]at this;omega
          .have:(o+1)*s<=I*s:=Nat.mul_le_mul_right _ g;omega
         rw[if_neg W]at D;exact C (hc I O c y j f D)
      .cases hq with
       |arr _ _ _ _ I c j hm hq=>
        simp only[aJ]at hm;split at hm
        .exact absurd hq (hnm c hm q)
        .exact hr.ocl id _ d q (.arr _ _ _ _ I c j hm hq)
    .exact h.elim
   .exact h.elim
  .exact h.elim
 .exact h.elim
end
section
variable {P:Program} {X:Frm} {ops:Array Oper} {T:kb}
def mG(T:kb)(t:TI)(o:Xd)(x:AV)(lo H:Option AV)(k:List Nat->AV->Prop):Prop:=match x,lo,H with
 |.osl id _,some (.int _ l),some (.int _ h)=>match t.tk with
  |.slice e=>match gq T e with
   |some te=>match o id with
    |some (.arr m sz _ _)=>ck (Nat.beq sz te.size) (Side (0<=l/\l<=h/\h<=m) (k [id] (.osub id l.toNat (h.toNat-l.toNat) te.size)))
    |_=>False
   |none=>False
  |_=>False
 |_,_,_=>rA T t x lo H (k [])
theorem tx(K:fK P T){O:Oper}{t:Nat}{x:Operand}{lo f:Option Operand}(Q:O.op=.slice t x lo f none){A:St}(N:lk ops O A.s)(L:co X.nt O){W:TI}(s:TiOk P t W){v:AV}{vl vh:Option AV}
  (R:cm A.s x=some v) (C:lf A.s lo=some vl) (z:lf A.s f=some vh) {k:List Nat->AV->Prop} (h:mG T W A.o v vl vh k):∃S u,k S u/\bD P X ops O A.s A.o (dj ops O (di x++y3 lo++y3 f) S u):=by
 unfold mG at h;split at h
 .rename_i id n kl l kh r;split at h
  .rename_i e H;have hu:=s.slice H;split at h
   .rename_i V d;have d:=K e V d;split at h
    .rename_i m sz G e' I;obtain⟨_,⟨h0,h1,h2⟩,H⟩:=be h;refine⟨_,_,H,cU N L λs' o' q F ρ Im a w o=>?_⟩;have y:cm s' x=some _:=(ay λk H=>q k (by simp[H])).trans R;have D:lf s' lo=some _:=(cO λk H=>q k (by simp[H])).trans C;have B:lf s' f=some _:=(cO λk H=>q k (by simp[H])).trans z;have g:o' id=some (.arr m sz G e'):=(F id ν).trans I;obtain⟨hbd,hne,hnc,e1⟩:=(o.opd y).osl_inv;have c:m<=(ρ id).2/\m<=f8/\(m≠0->(ρ id).1≠none):=by
      have i:=o.objs id _ g;cases i with
      |arr0=>exact⟨χ _,χ _,λh=>absurd rfl h⟩
      |arr _ _ _ _ b xs hρ hh hn c hxs hbd'=>exact⟨hn,hbd',λ_=>by rw[hρ];simp⟩
     obtain⟨hc1,hc2,E⟩:=c;have p:=dF (P:=P) (w:=w) hu d ((ρ id).1.map λb=>⟨b,0,none⟩) n (ρ id).2 (lo.map a.eval) (f.map a.eval) l r (.inr ⟨kl,fL o D⟩) (.inr ⟨kh,fL o B⟩) h0 h1 Z;refine⟨⟨.slice (if(ρ id).2=l.toNat then(ρ id).1.map λb=>(⟨b,0,none⟩:Addr)else((ρ id).1.map λb=>(⟨b,0,none⟩:Addr)).map (·.add (l.toNat*V.size))) (r.toNat-l.toNat) ((ρ id).2-l.toNat),?_,.osub id _ _ _ _ _ Z (λhz=>?_) Z⟩,λj hj=>by cases hj;exact o.opdN y (.osl _)⟩
     .simp[execOp,Q,e1,p]
     .obtain⟨b,hb⟩:=Option.ne_none_iff_exists'.1 (E Z);refine⟨b,hb,?_⟩;rw[if_neg Z,hb];simp[Addr.add_lit]
    .exact h.elim
   .exact h.elim
  .exact h.elim
 .obtain⟨u,H,q⟩:=uU K Q N L s R C z h;exact⟨_,_,H,q⟩
end
inductive SubS(r:Int)(k:Int->Prop):Prop
 |mk (h:ah r) (g:k r)
 |wrap (g:k (IntKind.i64.wrap r))
theorem SubS.out{r:Int}{k:Int->Prop}(h:SubS r k):k (IntKind.i64.wrap r):=by
 cases h with
 |mk h g=>rw[kV h];exact g
 |wrap g=>exact g
def AH(_:Program)(_:Nat)(d:TK)(o:BinOp)(x y:AV)(k:AV->Prop):Prop:=match o,x,y with
 |.sub,.int .i64 a,.int .i64 b=>SubS (a-b) λr=>k (.int .i64 r)
 |o,x,y=>Kw d o x y k
section
variable {P:Program} {ρ:Loc} {Im:Nat->Prop} {H:eZ}
theorem xl{t:Nat}{f:TI}(d:TiOk P t f){o:BinOp}{x y:AV}{k:AV->Prop}(h:AH P t f.tk o x y k) :
  ∃v,k v/\(∀i,¬Names i v)/\∀(ρ:Loc) (Im:Nat->Prop) (w:World) (u c:Value) (a b:Operand),Con ρ Im w.heap x u->Con ρ Im w.heap y c->
   ∃z,(do eqGuard o t a b u c;binOp o t u c:Sem Value).run P w=.ok z w/\∀I g,ConI I g v z:=by
 unfold AH at h;split at h
 .refine⟨_,h.out,λi j=>(by cases j),λρ Im w u c a b l e=>?_⟩;cases l.int_inv;cases e.int_inv;refine⟨_,?_,λ_ _=>.int _ _⟩;rw[eqGuard_at_int];simp[binOp,Op.intArith]
 .exact A9 d h
end
def ND(P:Program)(t f:Nat):Prop:=(match P.underlying t with
 | some (.struct fs)=>(match fs.toList[f]? with
  |some fd=>(match P.underlying fd.type with |some (.struct _)=>true|some (.array _ _)=>true|_=>false)&&(match P.info? fd.type with |some i=>Nat.beq i.size (P.cellsOf fd.type)|none=>false)
  |none=>false)
 |_=>false)=true
def Ku(P:Program)(t:Nat)(a:TI)(f:Nat)(x:AV)(k:AV->Prop):Prop:=match a.tk with
 |.struct=>match a.flds[f]?,x with
  |some (off,sz),.agg cs=>match sz with
   |1=>False
   |sz=>match Nat.ble (off+sz) cs.length with
    |true=>Side (ND P t f) (k (.agg ((cs.drop off).take sz)))
    |false=>False
  |_,_=>False
 |_=>False
section
variable {P:Program} {X:Frm} {ops:Array Oper} {T:kb}
theorem F2(w:World){t:Nat}{g:TI}(e:TiOk P t g)(m:g.tk=.struct){f o sz:Nat}(a:g.flds[f]? =some (o,sz))(h:ND P t f)(x:Array Value):(Instr.field t (.agg x) f).run P w=.ok (.agg (x.extract o (o+sz))) w:=by
 obtain⟨F,l,d⟩:=e.struct m;rw[<-d,List.getElem?_map]at a;unfold ND at h;rw[l]at h;dsimp only at h;cases hfd:F.toList[f]? with
 |none=>simp[hfd]at a
 |some fd=>
  rw[hfd]at a h;simp only[Option.map_some,Option.some.injEq,Prod.mk.injEq]at a;obtain⟨rfl,rfl⟩:=a;simp only[Bool.and_eq_true]at h;obtain⟨j,H⟩:=h;have b:F[f]? =some fd:=by rw[<-Array.getElem?_toList];exact hfd
  simp only[Instr.field,Sem.run_bind,run_underlying l,Result.andThen_ok,b,asAgg,Sem.run_pure,part,Go.isAgg];split at H
  .rename_i i k;have H:=Nat.eq_of_beq_eq_true H;split at j
   .rename_i c;simp[run_underlying c,Go.sizeOf,typeInfo,k,H]
   .rename_i c;simp[run_underlying c,Go.sizeOf,typeInfo,k,H]
   .cases j
  .cases H
theorem AI{O:Oper}{t f:Nat}{x:Operand}(v:O.op=.field t x f){A:St}(p:lk ops O A.s)(m:co X.nt O){l:TI}(g:TiOk P t l){u:AV}(z:cm A.s x=some u){k:AV->Prop}(h:Ku P t l f u k) :
  ∃r,k r/\bD P X ops O A.s A.o (dj ops O (di x) [] r):=by
 unfold Ku at h;split at h
 .rename_i q;split at h
  .rename_i o sz cs n;split at h
   .exact h.elim
   .split at h
    .rename_i hb;have e:=Nat.le_of_ble_eq_true hb;refine⟨_,h.2,cU p m λs' o' y _ ρ Im a w i=>?_⟩;have H:cm s' x=some (.agg cs):=(ay y).trans z;obtain⟨B,E,s,b⟩:=(i.opd H).agg_inv;refine⟨⟨.agg (B.extract o (o+sz)),?_,Cp s b _ _ e⟩,λj d=>?_⟩
     .simp only[execOp,v,E];rw[Sem.run_bind,F2 w g q n h.1];rfl
     .cases d with
      |agg _ c hm d=>exact i.opdN H (.agg _ c (List.mem_of_mem_drop (List.mem_of_mem_take hm)) d)
    .exact h.elim
  .exact h.elim
 .exact h.elim
end
end Go.Nc