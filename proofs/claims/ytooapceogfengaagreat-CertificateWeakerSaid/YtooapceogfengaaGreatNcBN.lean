/- Parts. -/
import Derived.Test.YtooapceogfengaaGreatNcBM
import GoSem.Instr.MapUpdate
import GoSem.Instr.MakeMap
import GoSem.Instr.Index
import GoSem.Instr.MakeInterface
import GoSem.Builtin.Clear
import Derived.Laws.StructEq
import Derived.Laws.Pointers
namespace Go.Nc
def dR(pl:Nat->Option (Nat×Nat)):List AV->List (Nat×AV)->Option (List AV)
 |cs,[]=>some cs
 |cs,(i,v)::r=>match pl i with
  |some (off,sz)=>match Nat.beq v.cellsL.length sz&&Nat.ble (off+sz) cs.length&&fD v.cellsL with
   |true=>dR pl (spl off v.cellsL cs) r
   |false=>none
  |none=>none
def fj(s:Nat->Option AV):List (Nat×Operand)->Option (List (Nat×AV))
 |[]=>some []
 |(i,x)::r=>match opdV s x with
  |some v=>match fj s r with
   |some vs=>some ((i,v)::vs)
   |none=>none
  |none=>none
def mJ:List (Nat×Operand)->List Nat
 |[]=>[]
 |(_,x)::r=>opdS x++mJ r
theorem iP{s s':Nat->Option AV}:∀{l:List (Nat×Operand)},(∀k∈mJ l,s' k=s k)->fj s' l=fj s l
 |[],_=>rfl
 |(i,x)::r,h=>by
  simp only[fj,mJ]at *;rw[az (s:=s) (s':=s') λk hk=>h k (by simp[hk]),iP (s:=s) (s':=s') λk hk=>h k (by simp[hk])]
section
variable {P:Program} {X:Frm} {ops:Array Oper} {T:Tab}
theorem x9(off:Nat):∀(l:List Value) (k:Nat) (xs:Array Value),off+k+l.length<=xs.size->
  ((l.zipIdx k).foldl (λcs (p:Value×Nat)=>cs.setIfInBounds (off+p.2) p.1) xs)=splV (off+k) l xs
 |[],k,xs,h=>by
  apply Array.ext_getElem?;intro j;rw[ft (by simpa using h)];simp;intro h1 h2;omega
 |v::r,k,xs,h=>by
  simp only[List.zipIdx_cons,List.foldl_cons];have h':off+(k+1)+r.length<=(xs.setIfInBounds (off+k) v).size:=by simp at h⊢;omega
  rw[x9 off r (k+1) _ h'];apply Array.ext_getElem?;intro j;rw[ft (by simpa using h'),ft (by simpa using h)];by_cases hj:j=off+k
  ·subst hj;have hlt:off+k<xs.size:=by simp at h;omega
   rw[if_neg ω,if_pos η];simp[hlt]
  ·by_cases hc:off+(k+1)<=j/\j<off+(k+1)+r.length
   ·rw[if_pos hc,if_pos (by simp;omega)];rw[(ω:j-(off+k)=(j-(off+(k+1)))+1)];simp
   ·rw[if_neg hc,if_neg (by simp;omega)];rw[Array.getElem?_setIfInBounds_ne ω]
theorem rD{pl:Nat->Option (Nat×Nat)}{ρ:Loc}{Im:Nat->Prop}{H:Heap}:∀(ps:List (Nat×AV)) (vs:List (Nat×Value)) (cs:List AV) (xs:Array Value) (cs':List AV),
  vs.length=ps.length->(∀(i:Nat) (p:Nat×AV) (q:Nat×Value),ps[i]? =some p->vs[i]? =some q->q.1=p.1/\Con ρ Im H p.2 q.2)->Cons ρ Im H cs xs->dR pl cs ps=some cs'->
  ∃xs',Instr.fill pl xs vs=some xs'/\Cons ρ Im H cs' xs'
 |[],[],cs,xs,cs',_,_,hc,hf=>by
  simp only[dR,Option.some.injEq]at hf;subst hf;exact⟨xs,rfl,hc⟩
 |[],_::_,_,_,_,hl,_,_,_=>by simp at hl
 |_::_,[],_,_,_,hl,_,_,_=>by simp at hl
 |(i, v)::ps,(i',u)::vs,cs,xs,cs',hl,hp,hc,hf=>by
  obtain⟨e1,hvu⟩:=hp 0 (i,v) (i',u) rfl rfl;simp only at e1;subst e1;simp only[dR]at hf;cases hpl:pl i' with
  |none=>simp[hpl]at hf
  |some q=>
   obtain⟨off,sz⟩:=q;simp only[hpl]at hf;cases hb:(Nat.beq v.cellsL.length sz&&Nat.ble (off+sz) cs.length&&fD v.cellsL)with
   |false=>simp[hb]at hf
   |true=>
    simp only[hb]at hf;simp only[Bool.and_eq_true]at hb;obtain⟨⟨h1,h2⟩,h3⟩:=hb;have h1:=Nat.eq_of_beq_eq_true h1;have h2:=Nat.le_of_ble_eq_true h2;have hcz:=iN hvu (mY h3);have hus:u.cells.size=sz:=by rw[hcz.1];exact h1
    have hfit:off+u.cells.toList.length<=xs.size:=by rw[hc.1];simp;omega
    have hsp:off+v.cellsL.length<=cs.length:=ω;have hnext:Cons ρ Im H (spl off v.cellsL cs) (splV off u.cells.toList xs):=by
     refine⟨by rw[iO hfit,jz hsp,hc.1],λj c x hcj hxj=>?_⟩;rw[vS hsp]at hcj;rw[ft hfit]at hxj;have hzl:u.cells.toList.length=v.cellsL.length:=by simp[hcz.1]
     rw[hzl]at hxj;split at hcj
     ·rename_i hcond;rw[if_pos hcond]at hxj;exact hcz.2 _ c x hcj (by simpa using hxj)
     ·rename_i hcond;rw[if_neg hcond]at hxj;exact hc.2 j c x hcj hxj
    obtain⟨xs',hx',hc'⟩:=rD ps vs _ _ cs' (by simpa using hl) (λj p q h1 h2=>hp (j+1) p q (by simpa using h1) (by simpa using h2)) hnext hf;refine⟨xs',?_,hc'⟩;have hfold:u.cells.zipIdx.foldl (λcs (p:Value×Nat)=>cs.setIfInBounds (off+p.2) p.1) xs=splV off u.cells.toList xs:=by
     rw[<-Array.foldl_toList,Array.toList_zipIdx];have:=x9 off u.cells.toList 0 xs (by simpa using hfit);simpa using this
    have hnle:¬(xs.size<off+u.cells.size):=by simp at hfit;omega
    simp only[Instr.fill,hpl,hus,ne_eq,not_true_eq_false,decide_false,Bool.false_or,decide_eq_true_eq];rw[hus]at hnle;simp only[gt_iff_lt,hnle,if_false];rw[hfold];exact hx'
theorem RelAt.parts{ρ:Loc}{Im:Nat->Prop}{s:Nat->Option AV}{o:Xd}{a:Act}{w:World}(h:RelAt X ρ Im s o a w):∀{l:List (Nat×Operand)} {vs:List (Nat×AV)},fj s l=some vs->
  (l.length=vs.length)/\(∀(i:Nat) (p:Nat×AV) (q:Nat×Value),vs[i]? =some p->(l.map λy=>(y.1,a.eval y.2))[i]? =some q->q.1=p.1/\Con ρ Im w.heap p.2 q.2)/\∀p∈vs,∀i,Names i p.2->o i≠none
 |[],vs,hv=>by
  simp only[fj,Option.some.injEq]at hv;subst hv;exact⟨rfl,by simp,by simp⟩
 |(i, x)::r,vs,hv=>by
  simp only[fj]at hv;cases hx:opdV s x with
  |none=>simp[hx]at hv
  |some v=>
   cases hr:fj s r with
   |none=>simp[hx,hr]at hv
   |some us=>
    simp only[hx,hr,Option.some.injEq]at hv;subst hv;obtain⟨h1,h2,h3⟩:=RelAt.parts h hr;refine⟨by simp[h1],λj p q hp hq=>?_,λp hp=>?_⟩
    ·cases j with
     |zero=>
      simp at hp hq;subst hp;subst hq;exact⟨rfl,h.opd hx⟩
     |succ j=>exact h2 j p q (by simpa using hp) (by simpa using hq)
    ·rcases List.mem_cons.1 hp with rfl|hp
     ·exactλi hi=>h.opdN hx hi
     ·exact h3 p hp
theorem lI{pl:Nat->Option (Nat×Nat)}:∀(ps:List (Nat×AV)) (cs cs':List AV),dR pl cs ps=some cs'->∀c∈cs',c∈cs\/∃p∈ps,∀i,Names i c->Names i p.2
 |[],cs,cs',h,c,hc=>by
  simp only[dR,Option.some.injEq]at h;subst h;exact .inl hc
 |(i, v)::ps,cs,cs',h,c,hc=>by
  simp only[dR]at h;split at h
  ·split at h
   ·rcases lI ps _ _ h c hc with h1|⟨p,hp,h1⟩
    ·rcases nC h1 with h1|h1
     ·refine .inr ⟨(i,v),by simp,λk hk=>?_⟩;unfold AV.cellsL at h1;split at h1
      ·exact .agg _ c h1 hk
      ·simp at h1;subst h1;exact hk
     ·exact .inl h1
    ·exact .inr ⟨p,by simp[hp],h1⟩
   ·cases h
  ·cases h
theorem nD{t:Nat}{ti:TI}(hti:TiOk P t ti){z:Value}(hz:z.cells.toList=ti.zero.map AV.conc)(ρ:Loc)(Im:Nat->Prop)(H:Heap):Cons ρ Im H ti.zero z.cells:=by
 have hpl:=hti.plain;rw[List.all_eq_true]at hpl;refine⟨by have:=congrArg List.length hz;simpa using this,λj c x hc hx=>?_⟩;have hx':z.cells.toList[j]? =some x:=by simpa using hx
 rw[hz,List.getElem?_map,hc]at hx';simp only[Option.map_some,Option.some.injEq]at hx';subst hx';exact .imm _ _ (AV.plain_con (hpl c (List.mem_of_getElem? hc)) _ _)
def Bb:List (Nat×Nat)->Bool
 |[]=>true
 |p::r=>Nat.blt 0 p.2&&Bb r
def qm(T:Tab)(ti:TI)(ps:List (Nat×AV))(k:AV->Prop):Prop:=match ti.tk with
 | .struct=>ck (Bb ti.flds) (match dR (fun i=>ti.flds[i]?) ti.zero ps with
  |some cs=>k (.agg cs)
  |none=>False)
 |.arr _ e=>match luT T e with
  |some te=>match dR (λi=>some (i*te.size,te.size)) ti.zero ps with
   |some cs=>k (.agg cs)
   |none=>False
  |none=>False
 |_=>False
theorem tB(hT:fB P T){op:Oper}{t:Nat}{parts:Array (Nat×Operand)}(ho:op.op=.build t parts){A:St}(hg:gOk ops op A.s)(hd:ca X.nt op){ti:TI}(hti:TiOk P t ti){ps:List (Nat×AV)}(hv:fj A.s parts.toList=some ps){k:AV->Prop}
  (h:qm T ti ps k):∃u,k u/\bt P X ops op A.s A.o (effV ops op (mJ parts.toList) [] u):=by
 have core:∀(pl:Nat->Option (Nat×Nat)) (cs:List AV),dR pl ti.zero ps=some cs->(∀(pv:List (Nat×Value)) (z:Value) (i:TypeInfo) (cells:Array Value),P.info? t=some i->i.zero=some z->Instr.fill pl z.cells pv=some cells->P.built t pv=some cells)->
   bt P X ops op A.s A.o (effV ops op (mJ parts.toList) [] (.agg cs)):=by
  intro pl cs hfill hbuilt;refine aZ hg hd λs' hs o' ρ Im a w hr=>?_;have hv':fj s' parts.toList=some ps:=(iP hs).trans hv;obtain⟨h1,h2,h3⟩:=hr.parts hv';obtain⟨i,z,hi,_,_,hz,hzc,_⟩:=hti.info;obtain⟨xs',hx,hc⟩:=rD ps (parts.toList.map λy=>(y.1,a.eval y.2)) ti.zero z.cells cs (by simpa using h1) h2 (nD hti hzc ρ Im w.heap) hfill;have hrun:=run_build (P:=P) w t (parts.map fun (p:Nat × Operand)=>(p.1,a.eval p.2)) xs' (by
   have:=hbuilt _ z i xs' hi hz hx;simpa using this)
  refine⟨⟨.agg xs',?_,.agg cs xs' hc.1 hc.2⟩,λj hj=>?_⟩
  ·simp[execOp,ho,hrun]
  ·cases hj with
   |agg _ c hm hj=>
    rcases lI ps _ _ hfill c hm with h|⟨p,hp,h⟩
    ·have hpl:=hti.plain;rw[List.all_eq_true]at hpl;exact absurd hj (AV.plain_names (hpl c h) j)
    ·exact h3 p hp j (h j hj)
 unfold qm at h;split at h
 ·rename_i hk;obtain⟨hpos,h⟩:=aY h;split at h
  ·rename_i cs hf;refine⟨_,h,core _ cs hf λpv z i cells hi hz hfill=>?_⟩;obtain⟨fs,hu,hfs⟩:=hti.struct hk;have hpl:fs.toList.mapM (λf=>(P.info? f.type).map λi=>(f.offset,i.size))=some ti.flds:=by
    rw[<-hfs]at hpos⊢;clear hf hfill hfs hu;generalize fs.toList=l at *;induction l with
    |nil=>rfl
    |cons f r ih=>
     simp only[List.map_cons,Bb,Bool.and_eq_true]at hpos;have hr:=ih hpos.2;have hlt:0<P.cellsOf f.type:=by simpa[Nat.blt_eq]using hpos.1
     unfold Program.cellsOf at hlt;cases hi:P.info? f.type with
     |none=>simp[hi]at hlt
     |some i=>simp[List.mapM_cons,hi,hr,Program.cellsOf]
   unfold Program.built;simp only[hi,hu,hz,hpl];rw[<-hfill];congr 1;funext j;simp
  ·exact h.elim
 ·rename_i n e hk;split at h
  ·rename_i te hte;have hte:=hT e te hte;split at h
   ·rename_i cs hf;refine⟨_,h,core _ cs hf λpv z i cells hi hz hfill=>?_⟩;have hu:=hti.arr hk;obtain⟨ie,ze,hie,hsz,_⟩:=hte.info;unfold Program.built;simp only[hi,hu,hz,hie,hsz];exact hfill
   ·exact h.elim
  ·exact h.elim
 ·exact h.elim
def repL:Nat->List AV->List AV
 |0,_=>[]
 |n+1,z=>z++repL n z
theorem jR(n:Nat)(z:List AV):(repL n z).length=n*z.length:=by
 induction n with
 |zero=>simp[repL]
 |succ n ih=>simp[repL,ih,Nat.succ_mul];omega
theorem xA{c:AV}:∀(n:Nat) (z:List AV),c∈repL n z->c∈z
 |0,z,h=>by simp[repL]at h
 |n+1,z,h=>by
  simp only[repL,List.mem_append]at h;rcases h with h|h
  ·exact h
  ·exact xA n z h
theorem rE:∀(n:Nat) (z:List AV) (i j:Nat),i<n->j<z.length->(repL n z)[i*z.length+j]? =z[j]?
 |0,_,_,_,h,_=>ω
 |n+1,z,0,j,_,hj=>by simp[repL,List.getElem?_append_left hj]
 |n+1,z,i+1,j,hi,hj=>by
  simp only[repL];rw[List.getElem?_append_right (by rw[Nat.succ_mul];omega)];rw[show(i+1)*z.length+j-z.length=i*z.length+j by rw[Nat.succ_mul];omega];exact rE n z i j ω hj
theorem Ef(z:Array Value)(n i j:Nat)(hi:i<n)(hj:j<z.size):(madeCells z (n*z.size))[i*z.size+j]? =z[j]?:=by
 have hlt:i*z.size+j<n*z.size:=by
  have:(i+1)*z.size<=n*z.size:=Nat.mul_le_mul_right _ hi;rw[Nat.succ_mul]at this;omega
 have hmod:(i*z.size+j)%z.size=j:=by
  rw[Nat.mul_comm,Nat.mul_add_mod,Nat.mod_eq_of_lt hj]
 simp[madeCells,hlt,hmod,hj]
theorem tC{e:Nat}{te:TI}(hte:TiOk P e te){z:Value}(hz:z.cells.toList=te.zero.map AV.conc)(n:Nat)(ρ:Loc)(Im:Nat->Prop)(H:Heap):Cons ρ Im H (repL n te.zero) (madeCells z.cells (n*te.size)):=by
 have hc:=nD hte hz ρ Im H;have hzs:z.cells.size=te.size:=by rw[hc.1,hte.zlen]
 refine⟨by rw[size_madeCells,jR,hte.zlen],λp c x hp hx=>?_⟩;have hlt:=(List.getElem?_eq_some_iff.1 hp).1;rw[jR,hte.zlen]at hlt;have h0:0<te.size:=by
  rcases Nat.eq_zero_or_pos te.size with h|h
  ·rw[h,Nat.mul_zero]at hlt;omega
  ·exact h
 have hq:p/te.size<n:=by rw[Nat.div_lt_iff_lt_mul h0];exact hlt
 have hr:=Nat.mod_lt p h0;have e2:p/te.size*te.size+p%te.size=p:=by rw[Nat.mul_comm];exact Nat.div_add_mod p te.size
 have g1:=rE n te.zero (p/te.size) (p%te.size) hq (by rw[hte.zlen];exact hr);rw[hte.zlen,e2,hp]at g1;have g2:=Ef z.cells n (p/te.size) (p%te.size) hq (by rw[hzs];exact hr);rw[hzs,e2,hx]at g2;exact hc.2 _ c x g1.symm g2.symm
theorem tD{op:Oper}{d:Nat}{A:St}(hg:gOk ops op A.s)(hd:ca X.nt op)(hid:A.o d=none){rs:List Nat}{n sz e:Nat}{get:Nat->List AV}(hn:n<=dZ)
  (h:∀s',(∀k∈rs,s' k=A.s k)->∀(o':Xd) ρ Im a w,RelAt X ρ Im s' o' a w->
   (∃xs,(execOp a.eval op).run P w=.ok (.value (.slice (some ⟨w.heap.size,0,none⟩) n n)) (w.alloc (.cells xs e))/\xs.size=n*sz/\(∀i,i<n->(get i).length=sz)/\
    ∀(i j:Nat) (c:AV) (x:Value),i<n->(get i)[j]? =some c->xs[i*sz+j]? =some x->Con ρ Im w.heap c x)/\∀i,i<n->∀c∈get i,∀k,Names k c->o' k≠none) :
  bt P X ops op A.s A.o (effV ops op rs [d] (.osl d n) [(d,some (.arr n sz get e))]):=by
 refine cA hg hd λs' o' hs ho ρ Im a w hr=>?_;obtain⟨⟨xs,hrun,hl,hln,hc⟩,hnm⟩:=h s' hs o' ρ Im a w hr;have hid':o' d=none:=(ho d η).trans hid;unfold Oper.wp;rw[hrun];have hml:n<=maxLen:=by simp only[dZ,maxLen]at hn⊢;omega
 refine⟨_,ρ.set d (some w.heap.size,n),Im,rfl,hr.new hid' (.cells xs e) n (.arr n sz get e) ?_ (λi hi=>?_),?_,λi hi=>?_⟩
 ·refine .arr n sz get e w.heap.size xs (by rw[Loc.set_same]) (heap_alloc_new w _) (by rw[Loc.set_same];exact ξ _) (by rw[Loc.set_same];exact hml) (by rw[Loc.set_same];exact hl) hn hln λi j c x hi h1 h2=>?_;exact((hc i j c x hi h1 h2).mono (λb hb=>hb) λb hb=>heap_alloc_old w _ b (hr.imlt b hb)).reloc λk hk=>Loc.set_ne _ _ λe=>hnm i hi c (List.mem_of_getElem? h1) k hk (by rw[e];exact hid')
 ·cases hi with
  |arr _ _ _ _ i' c hi' hm hi=>exact hnm i' hi' c hm i hi
 ·have:=Con.osl (ρ:=ρ.set d (some w.heap.size,n)) (Im:=Im) (H:=(w.alloc (.cells xs e)).heap) d n hn (λ_=>by rw[Loc.set_same];simp) (by rw[Loc.set_same];exact ξ _);rw[Loc.set_same]at this;exact this
 ·cases hi;simp[luO]
def zy(T:Tab)(ti:TI)(l c:AV)(k:Nat->LObj->Prop):Prop:=match ti.tk with
 |.slice e=>match luT T e with
  |some te=>match l,c with
   |.int .i64 n,.int .i64 m=>ck (Nat.ble te.bytes 128) (Side (n=m/\0<=n/\n<=1099511627776) (k n.toNat (.arr n.toNat te.size (λ_=>te.zero) e)))
   |_,_=>False
  |none=>False
 |_=>False
theorem vU(hT:fB P T){op:Oper}{t:Nat}{x y:Operand}(ho:op.op=.makeSlice t x y){d:Nat}{A:St}(hg:gOk ops op A.s)(hd:ca X.nt op)(hid:A.o d=none){ti:TI}(hti:TiOk P t ti){v u:AV}(hv:opdV A.s x=some v)(hu:opdV A.s y=some u){k:Nat->LObj->Prop}
  (h:zy T ti v u k):∃n ob,k n ob/\bt P X ops op A.s A.o (effV ops op (opdS x++opdS y) [d] (.osl d n) [(d,some ob)]):=by
 unfold zy at h;split at h
 ·rename_i e hk;have hund:=hti.slice hk;split at h
  ·rename_i te hte;have hte:=hT e te hte;split at h
   ·rename_i n m;replace h:=aY h;obtain⟨h2,⟨rfl,h0,h1⟩,h⟩:=h;have h2:=Nat.le_of_ble_eq_true h2;obtain⟨q,rfl⟩:=γ h0;simp only[χ]at h;refine⟨_,_,h,tD hg hd hid (by simp only[dZ];omega) λs' hs o' ρ Im a w hr=>?_⟩;have hv':opdV s' x=some _:=(az λk hk=>hs k (by simp[hk])).trans hv;have hu':opdV s' y=some _:=(az λk hk=>hs k (by simp[hk])).trans hu;obtain⟨i,z,hi,hsz,hby,hz,hzc,_⟩:=hte.info;have hb:(i.bytes:Int)*(q:Int)<=281474976710656:=by
     rw[hby];have:te.bytes*q<=128*1099511627776:=Nat.mul_le_mul h2 ω;have h3:((te.bytes*q:Nat):Int)<=281474976710656:=ω;rwa[Int.natCast_mul]at h3
    have hrun:=run_make (P:=P) w t e i z hund hi hz .i64 .i64 q q h0 (Int.le_refl _) hb ω;rw[hsz]at hrun;simp only[χ]at hrun;have hcc:=tC hte hzc q ρ Im w.heap;refine⟨⟨madeCells z.cells (q*te.size),?_,size_madeCells _ _,λ_ _=>hte.zlen,λi' j c x' hi' h3 h4=>?_⟩,λi' hi' c hc k hk=>?_⟩
    ·simp[execOp,ho,(hr.opd hv').int_inv,(hr.opd hu').int_inv,hrun]
    ·have hjl:j<te.zero.length:=(List.getElem?_eq_some_iff.1 h3).1;have:=rE q te.zero i' j hi' hjl;rw[hte.zlen,h3]at this;exact hcc.2 _ c x' this h4
    ·have hpl:=hte.plain;rw[List.all_eq_true]at hpl;exact absurd hk (AV.plain_names (hpl c hc) k)
   ·exact h.elim
  ·exact h.elim
 ·exact h.elim
def vLit(T:Tab)(ti:TI)(len:Nat)(ps:List (Nat×AV))(k:LObj->Prop):Prop:=match ti.tk with
 |.slice e=>match luT T e with
  | some te=>ck (Nat.ble len 1000 && Nat.ble te.size 100) (match dR (fun i=>some (i*te.size,te.size)) (repL len te.zero) ps with
   |some cs=>k (.arr len te.size (λi=>(cs.drop (i*te.size)).take te.size) e)
   |none=>False)
  |none=>False
 |_=>False
theorem nE{pl:Nat->Option (Nat×Nat)}:∀(ps:List (Nat×AV)) (cs cs':List AV),dR pl cs ps=some cs'->cs'.length=cs.length
 |[],cs,cs',h=>by simp only[dR,Option.some.injEq]at h;rw[h]
 |(i, v)::ps,cs,cs',h=>by
  simp only[dR]at h;split at h
  ·split at h
   ·rename_i off sz _ hb;rw[nE ps _ _ h];simp only[Bool.and_eq_true]at hb;have h1:=Nat.eq_of_beq_eq_true hb.1.1;have h2:=Nat.le_of_ble_eq_true hb.1.2;exact jz ω
   ·cases h
  ·cases h
theorem z4(hT:fB P T){op:Oper}{t len:Nat}{parts:Array (Nat×Operand)}(ho:op.op=.buildSlice t len parts){d:Nat}{A:St}(hg:gOk ops op A.s)(hd:ca X.nt op)(hid:A.o d=none){ti:TI}(hti:TiOk P t ti){ps:List (Nat×AV)}(hv:fj A.s parts.toList=some ps){k:LObj->Prop}
  (h:vLit T ti len ps k):∃ob,k ob/\bt P X ops op A.s A.o (effV ops op (mJ parts.toList) [d] (.osl d len) [(d,some ob)]):=by
 unfold vLit at h;split at h
 ·rename_i e hk;have hund:=hti.slice hk;split at h
  ·rename_i te hte;have hte:=hT e te hte;obtain⟨hb,h⟩:=aY h;simp only[Bool.and_eq_true]at hb;obtain⟨h1,h2⟩:=hb;have h1:=Nat.le_of_ble_eq_true h1;have h2:=Nat.le_of_ble_eq_true h2;split at h
   ·rename_i cs hf;have hcl:=nE _ _ _ hf;rw[jR,hte.zlen]at hcl;have seg:∀i,i<len->((cs.drop (i*te.size)).take te.size).length=te.size:=by
     intro i hi;have:(i+1)*te.size<=len*te.size:=Nat.mul_le_mul_right _ hi;rw[Nat.succ_mul]at this;simp;omega
    refine⟨_,h,tD hg hd hid (by simp only[dZ];omega) λs' hs o' ρ Im a w hr=>?_⟩;have hv':fj s' parts.toList=some ps:=(iP hs).trans hv;obtain⟨g1,g2,g3⟩:=hr.parts hv';obtain⟨i,z,hi,hsz,hby,hz,hzc,_⟩:=hte.info;obtain⟨xs',hx,hc⟩:=rD ps (parts.toList.map λy=>(y.1,a.eval y.2)) (repL len te.zero) (madeCells z.cells (len*te.size)) cs (by simpa using g1) g2 (tC hte hzc len ρ Im w.heap) hf;have hsmall:¬len*te.size>2 ^ 24:=by
     have:len*te.size<=1000*100:=Nat.mul_le_mul h1 h2;omega
    refine⟨⟨xs',?_,by rw[hc.1,hcl],seg,λi' j c x' hi' h3 h4=>?_⟩,λi' hi' c hcm k hk=>?_⟩
    ·by_cases hz0:len*te.size=0
     ·have e0:madeCells z.cells (len*te.size)= #[]:=by rw[hz0];simp[madeCells]
      rw[e0]at hx;simp[execOp,ho,Instr.buildSlice,run_underlying hund,hte.sizeOf,hz0,newRow,Array.range_zero',hx]
     ·simp only[madeCells]at hx;simp[execOp,ho,Instr.buildSlice,run_underlying hund,hte.sizeOf,hsmall,hz0,zeroValue,typeInfo,hi,hz,newRow,hx]
    ·rw[List.getElem?_take]at h3;split at h3
     ·rw[List.getElem?_drop]at h3;exact hc.2 _ c x' h3 h4
     ·cases h3
    ·have hcm':c∈cs:=List.mem_of_mem_drop (List.mem_of_mem_take hcm);rcases lI ps _ _ hf c hcm' with h|⟨p,hp,h⟩
     ·have hpl:=hte.plain;rw[List.all_eq_true]at hpl;have:c∈te.zero:=xA len _ h;exact absurd hk (AV.plain_names (hpl c this) k)
     ·exact g3 p hp k (h k hk)
   ·exact h.elim
  ·exact h.elim
 ·exact h.elim
end
def pR(key:AV):List (AV×AV)->Nat->Option (Option (Nat×AV))
 |[],_=>some none
 |(k,v)::r,i=>match key,k with
  |.int .i64 a,.int .i64 b=>if a=b then some (some (i,v))else pR key r (i+1)
  |.str a,.str b=>if a=b then some (some (i,v))else pR key r (i+1)
  |_,_=>none
def pS(tk:TK)(key:AV):Bool:=match tk,key with
 |.int .i64,.int .i64 _=>true
 |.str,.str _=>true
 |_,_=>false
def vV:AV->TypeDesc
 |.int .i64 _=>.int .i64
 |_=>.string
section
variable {P:Program} {X:Frm} {ops:Array Oper} {T:Tab} {ρ:Loc} {Im:Nat->Prop} {H:Heap}
def FRel(ρ:Loc)(Im:Nat->Prop)(H:Heap)(kvs:List (AV×AV))(es:List MapEntry)(kx:Value)(i:Nat):Option (Nat×AV)->Option (Nat×Value)->Prop
 |none,none=>True
 |some (j,v),some (j',x)=>j=j'/\Con ρ Im H v x/\∃k e,i<=j/\kvs[j-i]? =some (k,v)/\es[j-i]? =some e/\e.key=kx
 |_,_=>False
theorem FRel.up{kvs:List (AV×AV)}{es:List MapEntry}{kx:Value}{i:Nat}{p:AV×AV}{e:MapEntry}{r:Option (Nat×AV)}{q:Option (Nat×Value)}(h:FRel ρ Im H kvs es kx (i+1) r q):FRel ρ Im H (p::kvs) (e::es) kx i r q:=by
 rcases r with _|⟨j,v2⟩<;>rcases q with _|⟨j',x⟩<;>simp only[FRel]at h⊢;obtain⟨h1,h2,k2,e2,h3,h4,h5,h6⟩:=h;refine⟨h1,h2,k2,e2,ω,?_,?_,h6⟩
 ·rw[(ω:j-i=(j-(i+1))+1)];simpa using h4
 ·rw[(ω:j-i=(j-(i+1))+1)];simpa using h5
theorem Bc(a b:ByteArray):(a==b)=decide (a=b):=by
 have:(a==b)=(a.data==b.data):=rfl;rw[this];by_cases h:a=b
 ·subst h;simp
 ·have:a.data≠b.data:=λe=>h (ByteArray.ext e);simp[h,this]
theorem Bd(a b:Int):(a==b)=decide (a=b):=by
 by_cases h:a=b
 ·subst h;simp
 ·simp[h]
theorem nF{key:AV}{tk:TK}(hk:pS tk key=true){kx:Value}(hx:Con ρ Im H key kx):∀(kvs:List (AV×AV)) (es:List MapEntry) (i:Nat) (r:Option (Nat×AV)),
  es.length=kvs.length->(∀(j:Nat) (k v:AV) (e:MapEntry),kvs[j]? =some (k,v)->es[j]? =some e->Con ρ Im H k e.key/\Con ρ Im H v e.val)->pR key kvs i=some r->
  ∃q,Instr.findNow (vV key) kx es i=some q/\FRel ρ Im H kvs es kx i r q
 |[],[],i,r,_,_,h=>by
  simp only[pR,Option.some.injEq]at h;subst h;exact⟨none,rfl,trivial⟩
 |[],_::_,_,_,hl,_,_=>by simp at hl
 |_::_,[],_,_,hl,_,_=>by simp at hl
 |(k, v)::kvs,e::es,i,r,hl,hc,h=>by
  obtain⟨hck,hcv⟩:=hc 0 k v e rfl rfl;have ih:=λhr=>nF hk hx kvs es (i+1) r (by simpa using hl) (λj k v e h1 h2=>hc (j+1) k v e (by simpa using h1) (by simpa using h2)) hr;unfold pR at h;split at h
  ·rename_i a b;have hkx:=hx.int_inv;have hke:=hck.int_inv;subst hkx;by_cases hab:a=b
   ·rw[if_pos hab]at h;cases h;subst hab;exact⟨some (i,e.val),by simp only[Instr.findNow,Instr.sameNow,vV,hke,Bd];simp,rfl,hcv,.int .i64 a,e,ξ _,by simp,by simp,hke⟩
   ·rw[if_neg hab]at h;obtain⟨q,h1,h2⟩:=ih h;refine⟨q,?_,h2.up⟩;rw[<-h1];simp only[Instr.findNow,Instr.sameNow,vV,hke,Bd,hab,decide_false,if_true]
  ·rename_i a b;have hkx:=hx.str_inv;have hke:=hck.str_inv;subst hkx;by_cases hab:a=b
   ·rw[if_pos hab]at h;cases h;subst hab;exact⟨some (i,e.val),by simp only[Instr.findNow,Instr.sameNow,vV,hke,Bc];simp,rfl,hcv,.str a,e,ξ _,by simp,by simp,hke⟩
   ·rw[if_neg hab]at h;obtain⟨q,h1,h2⟩:=ih h;refine⟨q,?_,h2.up⟩;rw[<-h1];simp only[Instr.findNow,Instr.sameNow,vV,hke,Bc,hab,decide_false]
  ·cases h
theorem tE{k:Nat}{ti:TI}(hti:TiOk P k ti){key:AV}(hk:pS ti.tk key=true):P.underlying k=some (vV key):=by
 unfold pS at hk;split at hk
 ·rename_i h;rw[hti.int h];rfl
 ·rename_i h;rw[hti.str h];rfl
 ·cases hk
theorem iQ{k:Nat}{ti:TI}(hti:TiOk P k ti){key:AV}(hk:pS ti.tk key=true)(b:Bool)(x:Value)(w:World):(Instr.checkKey b 10000 k x).run P w=.ok () w:=by
 have hu:=tE hti hk;rw[show(10000:Nat)=9999+1 from rfl];unfold Instr.checkKey;rw[Sem.run_bind,run_underlying hu];unfold pS at hk;split at hk<;>first|rfl|cases hk
theorem jS{k:Nat}{ti:TI}(hti:TiOk P k ti){key:AV}(hk:pS ti.tk key=true){kx:Value}{es:List MapEntry}{q:Option (Nat×Value)}(h:Instr.findNow (vV key) kx es 0=some q)(w:World) :
  (Instr.findKey k kx es).run P w=.ok q w:=by
 unfold Instr.findKey;rw[Sem.run_bind,run_underlying (tE hti hk)];simp only[Result.andThen_ok,h];rfl
theorem lJ{w:World}{r:Nat}{es:Array MapEntry}{clock:Nat}(hb:w.heap[r]? =some (.map es clock)):(getObj r).run P w=.ok (.map es clock) w:=by simp[getObj,Sem.run,hb]
theorem qn{w:World}{r:Nat}{es:Array MapEntry}{clock:Nat}(o:Obj)(hb:w.heap[r]? =some (.map es clock)):(setObj r o).run P w=.ok () { w with heap:=w.heap.setIfInBounds r o }:=by simp[setObj,Sem.run,hb]
theorem Con.mref_inv{id:Nat}{x:Value}(h:Con ρ Im H (.mref id) x):∃b,x=.map (some b)/\(ρ id).1=some b:=by
 cases h with
 |imm _ _ hi=>cases hi
 |mref _ b hb=>exact⟨b,rfl,hb⟩
theorem pT{op:Oper}{t:Nat}(ho:op.op=.makeMap t none){d:Nat}{A:St}(hg:gOk ops op A.s)(hd:ca X.nt op)(hid:A.o d=none) :
  bt P X ops op A.s A.o (effV ops op [] [d] (.mref d) [(d,some (.map []))]):=by
 refine cA hg hd λs' o' hs ho' ρ Im a w hr=>?_;have hid':o' d=none:=(ho' d η).trans hid;have hrun:(execOp a.eval op).run P w=.ok (.value (.map (some w.heap.size))) (w.alloc (.map #[] 0)):=by simp[execOp,ho,Instr.makeMap,newObj,Sem.run]
 unfold Oper.wp;rw[hrun];refine⟨_,ρ.set d (some w.heap.size,0),Im,rfl,hr.new hid' (.map #[] 0) 0 (.map []) ?_ (λi hi=>?_),.mref d _ (by rw[Loc.set_same]),λi hi=>?_⟩
 ·exact .map [] w.heap.size #[] 0 (by rw[Loc.set_same]) (heap_alloc_new w _) rfl (λi k v e h=>by simp at h)
 ·cases hi with
  |mapK _ k v hm h=>simp at hm
  |mapV _ k v hm h=>simp at hm
 ·cases hi;simp[luO]
structure VLook(key:AV)(kvs:List (AV×AV))(k:Option (Nat×AV)->Prop):Prop where
 ex:∃r,pR key kvs 0=some r/\k r
def lkV(ok:Bool)(v:AV)(b:Bool):AV:=match ok with
 |true=>.tup [v,.bool b]
 |false=>v
def lkA(ok:Bool)(z:AV):Option (Nat×AV)->AV
 |some (_,v)=>lkV ok v true
 |none=>lkV ok z false
def lkQ(ok:Bool)(z:Value):Option (Nat×Value)->Value
 |some (_,v)=>if ok then .tuple #[v,.bool true]else v
 |none=>if ok then .tuple #[z,.bool false]else z
theorem Be{ok b:Bool}{u:AV}{val:Value}(hc:Con ρ Im H u val):Con ρ Im H (lkV ok u b) (if ok then .tuple #[val,.bool b]else val):=by
 cases ok with
 |false=>exact hc
 |true=>
  refine .tup _ _ rfl λi c x h5 h6=>?_;match i,h5,h6 with
  |0,h5,h6=>simp at h5 h6;subst h5;subst h6;exact hc
  |1,h5,h6=>simp at h5 h6;subst h5;subst h6;exact .imm _ _ (.bool _)
  |i+2,h5,h6=>simp at h5
theorem tF{ok b:Bool}{u:AV}{i:Nat}(hn:Names i (lkV ok u b)):Names i u:=by
 cases ok with
 |false=>exact hn
 |true=>
  cases hn with
  |tup _ c hm hn=>
   simp at hm;rcases hm with rfl|rfl
   ·exact hn
   ·cases hn
def lK(T:Tab)(ti:TI)(o:Xd)(m key:AV)(ok:Bool)(k:List Nat->AV->Prop):Prop:=match ti.tk with
 |.map kt et=>match luT T kt,luT T et with
  |some tk,some te=>match te.zero with
   |[z]=>match m with
    |.mref id=>match o id with
     |some (.map kvs)=>ck (pS tk.tk key&& !te.agg) (VLook key kvs λr=>k [id] (lkA ok z r))
     |_=>False
    |_=>False
   |_=>False
  |_,_=>False
 |_=>False
theorem Eg{t:Nat}{te:TI}(h:TiOk P t te){z:AV}(hz:te.zero=[z])(ha:te.agg=false)(w:World):(zeroValue t).run P w=.ok z.conc w:=by
 obtain⟨i,zv,hi,_,_,hzv,hzc,hag⟩:=h.info;have:zv=z.conc:=by
  rw[hz]at hzc;cases zv<;>simp_all[tx,Value.cells]
 subst this;simp[zeroValue,typeInfo,hi,hzv]
theorem rF(hT:fB P T){op:Oper}{t:Nat}{x y:Operand}{ok:Bool}(ho:op.op=.lookup t x y ok){A:St}(hg:gOk ops op A.s)(hd:ca X.nt op){ti:TI}(hti:TiOk P t ti){m key:AV}(hm:opdV A.s x=some m)(hk:opdV A.s y=some key)
  {k:List Nat->AV->Prop} (h:lK T ti A.o m key ok k):∃ro v,k ro v/\bt P X ops op A.s A.o (effV ops op (opdS x++opdS y) ro v):=by
 unfold lK at h;split at h
 ·rename_i kt et htk;split at h
  ·rename_i tk te hkt hte;split at h
   ·rename_i z hz;split at h
    ·rename_i id;split at h
     ·rename_i kvs hob;obtain⟨hb,⟨r,hfr,hkk⟩⟩:=aY h;simp only[Bool.and_eq_true,Bool.not_eq_true']at hb;have hok:TiOk P kt tk:=hT _ _ hkt;have hoe:TiOk P et te:=hT _ _ hte;have hpz:z.plain=true:=by have:=hoe.plain;rw[hz]at this;simpa using this
      refine⟨_,_,hkk,?_⟩;refine dq hg hd λs' o' hs ho' ρ Im a w hr=>?_;have hm':opdV s' x=some (.mref id):=(az λk hk=>hs k (by simp[hk])).trans hm;have hk':opdV s' y=some key:=(az λk hk=>hs k (by simp[hk])).trans hk;have hob':o' id=some (.map kvs):=(ho' id η).trans hob;obtain⟨b,hx,hb1⟩:=(hr.opd hm').mref_inv;have hoc:=hr.objs id _ hob';cases hoc with
      |map _ b2 es clock h1 h2 h3 h4=>
       rw[hb1]at h1;cases h1;obtain⟨q,hq,hqr⟩:=nF hb.1 (hr.opd hk') kvs es.toList 0 r (by simpa using h3) (λj k v e h5 h6=>h4 j k v e h5 (by simpa using h6)) hfr;have hrun:(execOp a.eval op).run P w=.ok (.value (lkQ ok z.conc q)) w:=by
        simp only[execOp,ho,hx,Instr.lookup];simp only[Sem.run_bind,run_underlying (hti.map htk),Result.andThen_ok,lJ h2,Sem.run_pure,iQ hok hb.1,jS hok hb.1 hq];rcases q with _|⟨j,u⟩
        ·simp only[Sem.run_bind,Eg hoe hz hb.2,Result.andThen_ok,Sem.run_pure,lkQ]
        ·simp only[lkQ];rfl
       refine⟨⟨_,hrun,?_⟩,λi hi=>?_⟩
       ·rcases r with _|⟨j,u⟩<;>rcases q with _|⟨j',val⟩<;>simp only[FRel]at hqr
        ·exact Be (.imm _ _ (AV.plain_con hpz _ _))
        ·exact Be hqr.2.1
       ·rcases r with _|⟨j,u⟩<;>rcases q with _|⟨j',val⟩<;>simp only[FRel]at hqr
        ·exact absurd (tF hi) (AV.plain_names hpz i)
        ·obtain⟨_,hcu,k2,e2,_,hk2,_⟩:=hqr;exact hr.ocl id _ hob' i (.mapV _ k2 u (List.mem_of_getElem? hk2) (tF hi))
     ·exact h.elim
    ·exact h.elim
   ·exact h.elim
  ·exact h.elim
 ·exact h.elim
def kSet(key v:AV)(kvs:List (AV×AV)):Option (Nat×AV)->List (AV×AV)
 |some (i,_)=>kvs.set i (key,v)
 |none=>kvs++[(key,v)]
def jT(T:Tab)(ti:TI)(o:Xd)(m key v:AV)(k:Nat->LObj->Prop):Prop:=match ti.tk with
 |.map kt _=>match luT T kt with
  |some tk=>match m with
   |.mref id=>match o id with
    |some (.map kvs)=>ck (pS tk.tk key) (VLook key kvs λr=>k id (.map (kSet key v kvs r)))
    |_=>False
   |_=>False
  |_=>False
 |_=>False
theorem k7(w:World)(g:Nat)(x y:Obj)(h:w.heap[g]? =some x):(w.heap.setIfInBounds g y)[g]? =some y:=by
 simp[(Array.getElem?_eq_some_iff.1 h).1]
theorem nG(w:World)(g b:Nat)(y:Obj)(h:b≠g):(w.heap.setIfInBounds g y)[b]? =w.heap[b]?:=by
 simp[Array.getElem?_setIfInBounds_ne (Ne.symm h)]
theorem RelAt.writeO{s:Nat->Option AV}{o:Xd}{a:Act}{w:World}(h:RelAt X ρ Im s o a w){id:Nat}{ob ob':LObj}(hob:o id=some ob)(hl:ob.live=true)(hrc:ob.isRec=false){b:Nat}(hb:(ρ id).1=some b)
  (y:Obj) (hcon:ObjCon ρ Im (w.heap.setIfInBounds b y) id ob') (hn:∀i,NamesO i ob'->o i≠none):RelAt X ρ Im s (luO [(id,some ob')] o) a { w with heap:=w.heap.setIfInBounds b y }:=by
 have ho':∀i,i≠id->luO [(id,some ob')] o i=o i:=λi hi=>by simp[luO,hi]
 have hal:∀i,o i≠none->luO [(id,some ob')] o i≠none:=λi hi=>by
  by_cases e:i=id
  ·subst e;simp[luO]
  ·rw[ho' i e];exact hi
 have hown:=h.own id ob b hob hl hb;refine h.upd (λi=>i=id) rfl rfl rfl η (λb' hb' hne=>nG w b b' y (λe=>hne id ob rfl hob hl (by rw[e];exact hb))) (λi _=>rfl) (λi hi=>ho' i hi) hal (λi ob2 hi hob2=>?_) (λi ob2 hi hob2=>by rw[hi,hob]at hob2;cases hob2;exact hrc);subst hi;have:ob2=ob':=by simp[luO]at hob2;exact hob2.symm
 subst this;refine⟨hcon,λj hj=>hal j (hn j hj),λ_ b2 hb2=>?_,λ_ b2 hb2 id' ob3 hob3 hl3 hb3=>?_⟩
 ·rw[hb]at hb2;cases hb2;exact⟨hown.1,by simpa using hown.2.1,hown.2.2⟩
 ·by_cases he:id'=i
  ·exact he
  ·rw[ho' id' he]at hob3;exact h.inj id' i ob3 ob b2 hob3 hl3 hob hl hb3 hb2
theorem tG{tk:TK}{key:AV}(hk:pS tk key=true){x:Value}(hx:Con ρ Im H key x):Instr.sameBits 10000 x x=true:=by
 unfold pS at hk;split at hk
 ·cases hx.int_inv;simp[Instr.sameBits]
 ·cases hx.str_inv;simp[Instr.sameBits,Bc]
 ·cases hk
theorem k8(hT:fB P T){op:Oper}{t:Nat}{x y z:Operand}(ho:op.op=.mapUpdate t x y z\/op.op=.insert t x y z){A:St}(hg:gOk ops op A.s)(hd:ca X.nt op){ti:TI}(hti:TiOk P t ti){m key v:AV}(hm:opdV A.s x=some m)(hk:opdV A.s y=some key)(hv:opdV A.s z=some v)
  {k:Nat->LObj->Prop} (h:jT T ti A.o m key v k):∃id ob,k id ob/\bt P X ops op A.s A.o (effV ops op (opdS x++opdS y++opdS z) [id] .junk [(id,some ob)]):=by
 unfold jT at h;split at h
 ·rename_i kt et htk;split at h
  ·rename_i tk hkt;split at h
   ·rename_i id;split at h
    ·rename_i kvs hob;obtain⟨hb,⟨r,hfr,hkk⟩⟩:=aY h;have hok:TiOk P kt tk:=hT _ _ hkt;refine⟨_,_,hkk,?_⟩;refine cA hg hd λs' o' hs ho' ρ Im a w hr=>?_;have hm':opdV s' x=some (.mref id):=(az λk hk=>hs k (by simp[hk])).trans hm;have hk':opdV s' y=some key:=(az λk hk=>hs k (by simp[hk])).trans hk;have hv':opdV s' z=some v:=(az λk hk=>hs k (by simp[hk])).trans hv;have hob':o' id=some (.map kvs):=(ho' id η).trans hob;obtain⟨b,hx,hb1⟩:=(hr.opd hm').mref_inv;have hoc:=hr.objs id _ hob';have hbim:=(hr.own id _ b hob' rfl hb1).1;cases hoc with
     |map _ b2 es clock h1 h2 h3 h4=>
      rw[hb1]at h1;cases h1;obtain⟨q,hq,hqr⟩:=nF hb (hr.opd hk') kvs es.toList 0 r (by simpa using h3) (λj k v e h5 h6=>h4 j k v e h5 (by simpa using h6)) hfr;have hmono:∀{y:Obj} {c:AV} {z:Value},Con ρ Im w.heap c z->Con ρ Im (w.heap.setIfInBounds b y) c z:=λhcy=>hcy.mono (λb hb=>hb) λb2 hb2=>nG w b b2 _ λe=>hbim (e▸hb2);rcases r with _|⟨j,u⟩<;>rcases q with _|⟨j',val⟩<;>simp only[FRel]at hqr
      ·have hrun:(execOp a.eval op).run P w=.ok .skip { w with heap:=w.heap.setIfInBounds b (.map (es.push { key:=a.eval y,val:=a.eval z,born:=clock }) (clock+1)) }:=by
        rcases ho with ho|ho<;>
        ·simp only[execOp,ho,hx,Instr.mapUpdate];simp only[Sem.run_bind,run_underlying (hti.map htk),Result.andThen_ok,lJ h2,Sem.run_pure,iQ hok hb,jS hok hb hq,qn _ h2]
       unfold Oper.wp;rw[hrun];refine⟨undef,ρ,Im,rfl,hr.writeO hob' rfl rfl hb1 _ ?_ (λi hi=>?_),.imm _ _ (.junk _),λi hi=>by cases hi⟩
       ·refine .map _ b _ (clock+1) hb1 (k7 w b _ _ h2) (by simp[kSet,h3]) λi k2 v2 e h5 h6=>?_;simp only[kSet]at h5;by_cases hlt:i<kvs.length
        ·rw[List.getElem?_append_left hlt]at h5;rw[Array.getElem?_push,if_neg ω]at h6;exact⟨hmono (h4 i k2 v2 e h5 h6).1,hmono (h4 i k2 v2 e h5 h6).2⟩
        ·have hi:i=kvs.length:=by
          have:=(List.getElem?_eq_some_iff.1 h5).1;simp at this;omega
         subst hi;simp at h5;rw[Array.getElem?_push,if_pos h3.symm]at h6;cases h6;obtain⟨rfl,rfl⟩:=h5;exact⟨hmono (hr.opd hk'),hmono (hr.opd hv')⟩
       ·simp only[kSet]at hi;cases hi with
        |mapK _ k2 v2 hm hi=>
         rcases List.mem_append.1 hm with hm|hm
         ·exact hr.ocl id _ hob' i (.mapK _ k2 v2 hm hi)
         ·simp at hm;rw[hm.1]at hi;exact hr.opdN hk' hi
        |mapV _ k2 v2 hm hi=>
         rcases List.mem_append.1 hm with hm|hm
         ·exact hr.ocl id _ hob' i (.mapV _ k2 v2 hm hi)
         ·simp at hm;rw[hm.2]at hi;exact hr.opdN hv' hi
      ·obtain⟨rfl,_,k2,e2,_,hk2,he2,hke⟩:=hqr;simp only[Nat.sub_zero]at hk2 he2;have hsb:=tG hb (hr.opd hk');have hes:es[j]? =some e2:=by simpa using he2
       have hrun:(execOp a.eval op).run P w=.ok .skip { w with heap:=w.heap.setIfInBounds b (.map (es.modify j λe=>{ e with key:=a.eval y,val:=a.eval z }) clock) }:=by
        rcases ho with ho|ho<;>
        ·simp only[execOp,ho,hx,Instr.mapUpdate];simp only[Sem.run_bind,run_underlying (hti.map htk),Result.andThen_ok,lJ h2,Sem.run_pure,iQ hok hb,jS hok hb hq,hes,Option.map_some,Option.getD_some,hke,Instr.keyThatStays,hsb,if_true,qn _ h2]
       unfold Oper.wp;rw[hrun];refine⟨undef,ρ,Im,rfl,hr.writeO hob' rfl rfl hb1 _ ?_ (λi hi=>?_),.imm _ _ (.junk _),λi hi=>by cases hi⟩
       ·refine .map _ b _ clock hb1 (k7 w b _ _ h2) (by simp[kSet,h3]) λi k3 v3 e h5 h6=>?_;simp only[kSet]at h5;rw[Array.getElem?_modify]at h6;by_cases hij:j=i
        ·subst hij;rw[if_pos rfl,hes]at h6;simp only[Option.map_some,Option.some.injEq]at h6;subst h6;rw[List.getElem?_set_self (List.getElem?_eq_some_iff.1 hk2).1]at h5;simp at h5;obtain⟨rfl,rfl⟩:=h5;exact⟨hmono (hr.opd hk'),hmono (hr.opd hv')⟩
        ·rw[if_neg hij]at h6;rw[List.getElem?_set_ne hij]at h5;exact⟨hmono (h4 i k3 v3 e h5 h6).1,hmono (h4 i k3 v3 e h5 h6).2⟩
       ·simp only[kSet]at hi;cases hi with
        |mapK _ k2 v2 hm hi=>
         rcases List.mem_or_eq_of_mem_set hm with hm|hm
         ·exact hr.ocl id _ hob' i (.mapK _ k2 v2 hm hi)
         ·simp at hm;rw[hm.1]at hi;exact hr.opdN hk' hi
        |mapV _ k2 v2 hm hi=>
         rcases List.mem_or_eq_of_mem_set hm with hm|hm
         ·exact hr.ocl id _ hob' i (.mapV _ k2 v2 hm hi)
         ·simp at hm;rw[hm.2]at hi;exact hr.opdN hv' hi
    ·exact h.elim
   ·exact h.elim
  ·exact h.elim
 ·exact h.elim
def qo(x ix:AV)(k:AV->Prop):Prop:=match x,ix with
 |.str s,.int _ i=>Side (0<=i/\i<s.size) (k (.int .u8 (s.get! i.toNat).toNat))
 |_,_=>False
theorem tH{op:Oper}{t:Nat}{x y:Operand}(ho:op.op=.index t x y){A:St}(hg:gOk ops op A.s)(hd:ca X.nt op){ti:TI}(hti:TiOk P t ti)(hs0:ti.tk=.str){u v:AV}(hu:opdV A.s x=some u)(hv:opdV A.s y=some v){k:AV->Prop}(h:qo u v k) :
  ∃r,k r/\bt P X ops op A.s A.o (effV ops op (opdS x++opdS y) [] r):=by
 unfold qo at h;split at h
 ·rename_i s kk i;obtain⟨⟨h1,h2⟩,hk⟩:=h;refine⟨_,hk,dq hg hd λs' o' hs _ ρ Im a w hr=>?_⟩;have hu':opdV s' x=some (.str s):=(az λk hk=>hs k (by simp[hk])).trans hu;have hv':opdV s' y=some (.int kk i):=(az λk hk=>hs k (by simp[hk])).trans hv;have e1:=(hr.opd hu').str_inv;have e2:=(hr.opd hv').int_inv;have hlt:i.toNat<s.size:=ω;have hget:s[i.toNat]? =some (s.get! i.toNat):=by
   simp[getElem?_pos,hlt,ByteArray.get!];rfl
  refine⟨⟨.int .u8 (s.get! i.toNat).toNat,?_,.imm _ _ (.int _ _)⟩,λj hj=>by cases hj⟩;simp only[execOp,ho,e1,e2,Instr.index,asIntOf];simp only[Sem.run_bind,Sem.run_pure,run_underlying (hti.str hs0),Result.andThen_ok,if_pos h1,hget]
 ·exact h.elim
theorem G9{ρ:Loc}{Im:Nat->Prop}{H:Heap}{cs:List AV}{xs:Array Value}(hl:xs.size=cs.length)(h:∀(i:Nat) (c:AV) (x:Value),cs[i]? =some c->xs[i]? =some x->Con ρ Im H c x)(off sz:Nat)(hb:off+sz<=cs.length) :
  Con ρ Im H (.agg ((cs.drop off).take sz)) (.agg (xs.extract off (off+sz))):=by
 refine .agg _ _ (by simp;omega) λi c x hc hx=>?_;rw[List.getElem?_take]at hc;split at hc
 ·rw[List.getElem?_drop]at hc;rw[Array.getElem?_extract]at hx;split at hx
  ·exact h (off+i) c x hc hx
  ·cases hx
 ·cases hc
theorem tI{op:Oper}{t:Nat}{x:Operand}(ho:op.op=.makeInterface t x){A:St}(hg:gOk ops op A.s)(hd:ca X.nt op){ti:TI}(hti:TiOk P t ti)(hk:match ti.tk with |.other=>False|_=>True){v:AV}(hv:opdV A.s x=some v)(hi:∀(ρ:Loc) (Im:Nat->Prop) (H:Heap) (y:Value),Con ρ Im H v y->ConI Im H v y) :
  bt P X ops op A.s A.o (effV ops op (opdS x) [] (.iface t v)):=by
 refine dq hg hd λs' o' hs _ ρ Im a w hr=>?_;have hv':opdV s' x=some v:=(az hs).trans hv;refine⟨⟨.iface t (a.eval x),?_,.imm _ _ (.iface _ _ _ (hi _ _ _ _ (hr.opd hv')))⟩,λj hj=>by cases hj⟩;obtain⟨d,hd1,hd2,_⟩:=hti.und;simp only[execOp,ho,Instr.makeInterface];simp only[Sem.run_bind,run_underlying hd1,Result.andThen_ok];cases d<;>simp only[TK.of]at hd2<;>first|rfl|(rw[<-hd2]at hk;exact hk.elim)
def qp(T:Tab)(ti:TI)(o:Xd)(x:AV)(k:Nat->LObj->Prop):Prop:=match ti.tk with
 |.slice e=>match luT T e with
  |some te=>match x with
   |.osub id off n sz=>match o id with
    | some (.arr m sz' get e')=>ck (Nat.beq sz' sz && (Nat.beq te.size sz && fD te.zero)) (Side (n=1/\off<m)
      (k id (.arr m sz' (λi'=>bif Nat.beq i' off then te.zero else get i') e')))
    |_=>False
   |_=>False
  |none=>False
 |_=>False
theorem rG(z:Array Value):Builtin.zeroCells z 1=z:=by
 apply Array.ext
 ·simp[Builtin.zeroCells]
 ·intro i h1 h2;simp[Builtin.zeroCells,Nat.mod_eq_of_lt h2,h2]
theorem tJ(hT:fB P T){op:Oper}{t:Nat}{x:Operand}(ho:op.op=.call { callee:=.builtin .clear,args:=#[x],argTypes:=#[t] }){A:St}(hg:gOk ops op A.s)(hd:ca X.nt op){ti:TI}(hti:TiOk P t ti){v:AV}(hv:opdV A.s x=some v){k:Nat->LObj->Prop}
  (h:qp T ti A.o v k):∃id ob,k id ob/\bt P X ops op A.s A.o (effV ops op (opdS x) [id] .junk [(id,some ob)]):=by
 unfold qp at h;split at h
 ·rename_i e hk;have hund:=hti.slice hk;split at h
  ·rename_i te hte;have hte:=hT e te hte;split at h
   ·rename_i id off n sz;split at h
    ·rename_i m sz' get e' hob;obtain⟨hb,⟨rfl,hlt⟩,hk⟩:=aY h;simp only[Bool.and_eq_true]at hb;obtain⟨h1,h2,h3⟩:=hb;obtain rfl:sz'=sz:=Nat.eq_of_beq_eq_true h1;have h2:=Nat.eq_of_beq_eq_true h2;refine⟨id,_,hk,cA hg hd λs' o' hs ho' ρ Im a w hr=>?_⟩;have hv':opdV s' x=some (.osub id off 1 sz'):=(az λk hk=>hs k (by simp[hk])).trans hv;have hob':o' id=some (.arr m sz' get e'):=(ho' id η).trans hob;obtain⟨cap,p,hp,ex⟩:=(hr.opd hv').osub_inv;obtain⟨b,hρb,rfl⟩:=hp φ;obtain⟨i,z,hi,hsz,hby,hz,hzc,_⟩:=hte.info;have hcz:Cons ρ Im w.heap te.zero z.cells:=nD hte hzc ρ Im w.heap;have hzl:z.cells.toList.length=te.zero.length:=by simp[hcz.1]
     have hzs:te.zero.length=sz':=hte.zlen.trans h2;have hone:∀u∈z.cells.toList,u.oneCell'=true:=λu hu=>by
      obtain⟨i,hi,rfl⟩:=List.mem_iff_getElem.1 hu;have hi2:i<te.zero.length:=by rw[<-hzl];exact hi
      exact(hcz.2 i te.zero[i] _ η η).oneCell (jQ h3 _ η)
     have hown:=hr.own id _ b hob' rfl hρb;have hobc:=hr.objs id _ hob';cases hobc with
     |arr0=>omega
     |arr _ _ _ _ b' xs hρ hh hn hcap hxs hbd hszg hc=>
      obtain rfl:b=b':=by rw[hρb]at hρ;exact Option.some.inj hρ
      have hle:(off+1)*sz'<=(ρ id).2*sz':=Nat.mul_le_mul_right _ ω;have hadd:(off+1)*sz'=off*sz'+sz':=Nat.succ_mul off sz';have hfit:off*sz'+z.cells.toList.length<=xs.size:=ω;have hst:=run_storeCells_at P b (off*sz') e' z.cells.toList 0 xs w hh (by simpa using hfit) hone;simp only[Nat.add_zero]at hst;unfold Oper.wp;have hzv:(zeroValue e).run P w=.ok z w:=by simp[zeroValue,typeInfo,hi,hz]
      have he:(execOp a.eval op).run P w=.ok (.value (.tuple #[])) (w.setRow b (splV (off*sz') z.cells.toList xs)):=by
       simp[execOp,ho,resolve,invoke,builtin,Builtin.clear_,ex,run_underlying hund,hzv,rG,hst,splV]
      rw[he];have hnm:∀c∈te.zero,∀k,¬Names k c:=λc hc k hk=>by
       have hpl:=hte.plain;rw[List.all_eq_true]at hpl;exact absurd hk (AV.plain_names (hpl c hc) k)
      refine⟨_,ρ,Im,rfl,hr.write hob' rfl rfl hρ _ ?_ (λq hq=>?_),.imm _ _ (.junk _),λi hi=>by cases hi⟩
      ·have hH':=eA w b xs (splV (off*sz') z.cells.toList xs) e' (0,0) hh;have hne:∀b2,b2≠b->(w.setRow b (splV (off*sz') z.cells.toList xs)).heap[b2]? =w.heap[b2]?:=λb2 hb2=>dL w b b2 _ hb2;refine .arr m sz' _ e' b _ hρ hH' hn hcap (by rw[iO hfit];exact hxs) hbd (λi0 hi0=>?_) λi0 j0 c y hi0 hcj hyj=>?_
       ·simp only[aG];split
        ·exact hzs
        ·exact hszg i0 hi0
       ·have hmono:∀{c:AV} {y:Value},Con ρ Im w.heap c y->Con ρ Im (w.setRow b (splV (off*sz') z.cells.toList xs)).heap c y:=λhcy=>hcy.mono (λb hb=>hb) λb2 hb2=>hne b2 λe=>hown.1 (e▸hb2);rw[ft hfit,hzl]at hyj;simp only[aG]at hcj;split at hcj
        ·rename_i hi0i;subst hi0i;have hj:=(List.getElem?_eq_some_iff.1 hcj).1;rw[if_pos ω,(ω:i0*sz'+j0-i0*sz'=j0)]at hyj;exact hmono (hcz.2 _ c y hcj (by simpa using hyj))
        ·rename_i hi0i;have hj0:j0<sz':=by
          have:=(List.getElem?_eq_some_iff.1 hcj).1;have:=hszg i0 hi0;omega
         have hout:¬(off*sz'<=i0*sz'+j0/\i0*sz'+j0<off*sz'+te.zero.length):=by
          rintro⟨g1,g2⟩;rcases Nat.lt_or_gt_of_ne hi0i with g|g
          ·have:(i0+1)*sz'<=off*sz':=Nat.mul_le_mul_right _ g;rw[Nat.succ_mul]at this;omega
          ·have:(off+1)*sz'<=i0*sz':=Nat.mul_le_mul_right _ g;omega
         rw[if_neg hout]at hyj;exact hmono (hc i0 j0 c y hi0 hcj hyj)
      ·cases hq with
       |arr _ _ _ _ i0 c hi0 hm hq=>
        simp only[aG]at hm;split at hm
        ·exact absurd hq (hnm c hm q)
        ·exact hr.ocl id _ hob' q (.arr _ _ _ _ i0 c hi0 hm hq)
    ·exact h.elim
   ·exact h.elim
  ·exact h.elim
 ·exact h.elim
end
section
variable {P:Program} {X:Frm} {ops:Array Oper} {T:Tab}
def lL(T:Tab)(ti:TI)(o:Xd)(x:AV)(lo hi:Option AV)(k:List Nat->AV->Prop):Prop:=match x,lo,hi with
 |.osl id _,some (.int _ l),some (.int _ h)=>match ti.tk with
  |.slice e=>match luT T e with
   |some te=>match o id with
    |some (.arr m sz _ _)=>ck (Nat.beq sz te.size) (Side (0<=l/\l<=h/\h<=m) (k [id] (.osub id l.toNat (h.toNat-l.toNat) te.size)))
    |_=>False
   |none=>False
  |_=>False
 |_,_,_=>qk T ti x lo hi (k [])
theorem rH(hT:fB P T){op:Oper}{t:Nat}{x:Operand}{lo hi:Option Operand}(ho:op.op=.slice t x lo hi none){A:St}(hg:gOk ops op A.s)(hd:ca X.nt op){ti:TI}(hti:TiOk P t ti){v:AV}{vl vh:Option AV}
  (hv:opdV A.s x=some v) (hvl:optV A.s lo=some vl) (hvh:optV A.s hi=some vh) {k:List Nat->AV->Prop} (h:lL T ti A.o v vl vh k):∃ro u,k ro u/\bt P X ops op A.s A.o (effV ops op (opdS x++optS lo++optS hi) ro u):=by
 unfold lL at h;split at h
 ·rename_i id n kl l kh r;split at h
  ·rename_i e hk;have hu:=hti.slice hk;split at h
   ·rename_i te hte;have hte:=hT e te hte;split at h
    ·rename_i m sz get e' hob;obtain⟨_,⟨h0,h1,h2⟩,hk⟩:=aY h;refine⟨_,_,hk,dq hg hd λs' o' hs ho' ρ Im a w hr=>?_⟩;have hv':opdV s' x=some _:=(az λk hk=>hs k (by simp[hk])).trans hv;have hvl':optV s' lo=some _:=(c5 λk hk=>hs k (by simp[hk])).trans hvl;have hvh':optV s' hi=some _:=(c5 λk hk=>hs k (by simp[hk])).trans hvh;have hob':o' id=some (.arr m sz get e'):=(ho' id η).trans hob;obtain⟨hbd,hne,hnc,e1⟩:=(hr.opd hv').osl_inv;have hcap:m<=(ρ id).2/\m<=dZ/\(m≠0->(ρ id).1≠none):=by
      have hobc:=hr.objs id _ hob';cases hobc with
      |arr0=>exact⟨π _,π _,λh=>absurd rfl h⟩
      |arr _ _ _ _ b xs hρ hh hn hcap hxs hbd'=>exact⟨hn,hbd',λ_=>by rw[hρ];simp⟩
     obtain⟨hc1,hc2,hc3⟩:=hcap;have hrun:=dr (P:=P) (w:=w) hu hte ((ρ id).1.map λb=>⟨b,0,none⟩) n (ρ id).2 (lo.map a.eval) (hi.map a.eval) l r (.inr ⟨kl,fq hr hvl'⟩) (.inr ⟨kh,fq hr hvh'⟩) h0 h1 ω;refine⟨⟨.slice (if(ρ id).2=l.toNat then(ρ id).1.map λb=>(⟨b,0,none⟩:Addr)else((ρ id).1.map λb=>(⟨b,0,none⟩:Addr)).map (·.add (l.toNat*te.size))) (r.toNat-l.toNat) ((ρ id).2-l.toNat),?_,.osub id _ _ _ _ _ ω (λhz=>?_) ω⟩,λj hj=>by cases hj;exact hr.opdN hv' (.osl _)⟩
     ·simp[execOp,ho,e1,hrun]
     ·obtain⟨b,hb⟩:=Option.ne_none_iff_exists'.1 (hc3 ω);refine⟨b,hb,?_⟩;rw[if_neg ω,hb];simp[Addr.add_lit]
    ·exact h.elim
   ·exact h.elim
  ·exact h.elim
 ·obtain⟨u,hk,hs⟩:=t7 hT ho hg hd hti hv hvl hvh h;exact⟨_,_,hk,hs⟩
end
inductive SubS(r:Int)(k:Int->Prop):Prop
 |mk (h:ah r) (g:k r)
 |wrap (g:k (IntKind.i64.wrap r))
theorem SubS.out{r:Int}{k:Int->Prop}(h:SubS r k):k (IntKind.i64.wrap r):=by
 cases h with
 |mk h g=>rw[k6 h];exact g
 |wrap g=>exact g
def z5(_:Program)(_:Nat)(d:TK)(op:BinOp)(x y:AV)(k:AV->Prop):Prop:=match op,x,y with
 |.sub,.int .i64 a,.int .i64 b=>SubS (a-b) λr=>k (.int .i64 r)
 |op,x,y=>vBin d op x y k
section
variable {P:Program} {ρ:Loc} {Im:Nat->Prop} {H:Heap}
theorem vW{t:Nat}{ti:TI}(hti:TiOk P t ti){op:BinOp}{x y:AV}{k:AV->Prop}(h:z5 P t ti.tk op x y k) :
  ∃v,k v/\(∀i,¬Names i v)/\∀(ρ:Loc) (Im:Nat->Prop) (w:World) (u u':Value) (a b:Operand),Con ρ Im w.heap x u->Con ρ Im w.heap y u'->
   ∃z,(do eqGuard op t a b u u';binOp op t u u':Sem Value).run P w=.ok z w/\∀Im' H',ConI Im' H' v z:=by
 unfold z5 at h;split at h
 ·refine⟨_,h.out,λi hn=>(by cases hn),λρ Im w u u' a b hu hu'=>?_⟩;cases hu.int_inv;cases hu'.int_inv;refine⟨_,?_,λ_ _=>.int _ _⟩;rw[eqGuard_at_int];simp[binOp,Op.intArith]
 ·exact zp hti h
end
def FldA(P:Program)(t f:Nat):Prop:=(match P.underlying t with
 | some (.struct fs)=>(match fs.toList[f]? with
  |some fd=>(match P.underlying fd.type with |some (.struct _)=>true|some (.array _ _)=>true|_=>false)&&(match P.info? fd.type with |some i=>Nat.beq i.size (P.cellsOf fd.type)|none=>false)
  |none=>false)
 |_=>false)=true
def vFld(P:Program)(t:Nat)(ti:TI)(f:Nat)(x:AV)(k:AV->Prop):Prop:=match ti.tk with
 |.struct=>match ti.flds[f]?,x with
  |some (off,sz),.agg cs=>match sz with
   |1=>False
   |sz=>match Nat.ble (off+sz) cs.length with
    |true=>Side (FldA P t f) (k (.agg ((cs.drop off).take sz)))
    |false=>False
  |_,_=>False
 |_=>False
section
variable {P:Program} {X:Frm} {ops:Array Oper} {T:Tab}
theorem Eh(w:World){t:Nat}{ti:TI}(hti:TiOk P t ti)(hk:ti.tk=.struct){f off sz:Nat}(hf:ti.flds[f]? =some (off,sz))(h:FldA P t f)(xs:Array Value):(Instr.field t (.agg xs) f).run P w=.ok (.agg (xs.extract off (off+sz))) w:=by
 obtain⟨fs,hu,hfs⟩:=hti.struct hk;rw[<-hfs,List.getElem?_map]at hf;unfold FldA at h;rw[hu]at h;dsimp only at h;cases hfd:fs.toList[f]? with
 |none=>simp[hfd]at hf
 |some fd=>
  rw[hfd]at hf h;simp only[Option.map_some,Option.some.injEq,Prod.mk.injEq]at hf;obtain⟨rfl,rfl⟩:=hf;simp only[Bool.and_eq_true]at h;obtain⟨h1,h2⟩:=h;have hfd':fs[f]? =some fd:=by rw[<-Array.getElem?_toList];exact hfd
  simp only[Instr.field,Sem.run_bind,run_underlying hu,Result.andThen_ok,hfd',asAgg,Sem.run_pure,part,Go.isAgg];split at h2
  ·rename_i i hi;have h2:=Nat.eq_of_beq_eq_true h2;split at h1
   ·rename_i hd;simp[run_underlying hd,Go.sizeOf,typeInfo,hi,h2]
   ·rename_i hd;simp[run_underlying hd,Go.sizeOf,typeInfo,hi,h2]
   ·cases h1
  ·cases h2
theorem z6{op:Oper}{t f:Nat}{x:Operand}(ho:op.op=.field t x f){A:St}(hg:gOk ops op A.s)(hd:ca X.nt op){ti:TI}(hti:TiOk P t ti){u:AV}(hu:opdV A.s x=some u){k:AV->Prop}(h:vFld P t ti f u k) :
  ∃r,k r/\bt P X ops op A.s A.o (effV ops op (opdS x) [] r):=by
 unfold vFld at h;split at h
 ·rename_i hk;split at h
  ·rename_i off sz cs hf;split at h
   ·exact h.elim
   ·split at h
    ·rename_i hb;have hle:=Nat.le_of_ble_eq_true hb;refine⟨_,h.2,dq hg hd λs' o' hs _ ρ Im a w hr=>?_⟩;have hu':opdV s' x=some (.agg cs):=(az hs).trans hu;obtain⟨xs,ex,hl,hcs⟩:=(hr.opd hu').agg_inv;refine⟨⟨.agg (xs.extract off (off+sz)),?_,G9 hl hcs _ _ hle⟩,λj hj=>?_⟩
     ·simp only[execOp,ho,ex];rw[Sem.run_bind,Eh w hti hk hf h.1];rfl
     ·cases hj with
      |agg _ c hm hj=>exact hr.opdN hu' (.agg _ c (List.mem_of_mem_drop (List.mem_of_mem_take hm)) hj)
    ·exact h.elim
  ·exact h.elim
 ·exact h.elim
end
end Go.Nc