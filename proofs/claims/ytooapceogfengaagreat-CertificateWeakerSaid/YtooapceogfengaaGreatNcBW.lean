/- Parts. -/
import Derived.Test.YtooapceogfengaaGreatNcBV
import Derived.RangeFuncLeaves
import Derived.Scope
import Derived.RangeFuncRecord
import Derived.RangeFuncOwn
namespace Go.Nc
structure Ghost(X:Frm)(A B:St):Prop where
 run:∀a w,Rel X A.s A.o a w->Rel X B.s B.o a w
theorem Ghost.rfl{X:Frm}{A:St}:Ghost X A A:=⟨λ_ _ h=>h⟩
theorem Ghost.trans{X:Frm}{A B C:St}(h:Ghost X A B)(k:Ghost X B C):Ghost X A C:=⟨λa w r=>k.run a w (h.run a w r)⟩
mutual
def reV(f:Nat->Nat):AV->AV
 |.lptr id off=>.lptr (f id) off
 |.osl id n=>.osl (f id) n
 |.osub id off n sz=>.osub (f id) off n sz
 |.optr id sz i j=>.optr (f id) sz i j
 |.mref id=>.mref (f id)
 |.yld id=>.yld (f id)
 |.fn g cs=>.fn g (reL f cs)
 |.agg cs=>.agg (reL f cs)
 |.tup cs=>.tup (reL f cs)
 |v=>v
def reL(f:Nat->Nat):List AV->List AV
 |[]=>[]
 |c::cs=>reV f c::reL f cs
end
mutual
def nmV(ids:List Nat):AV->Bool
 |.lptr id _=>ids.elem id
 |.osl id _=>ids.elem id
 |.osub id _ _ _=>ids.elem id
 |.optr id _ _ _=>ids.elem id
 |.mref id=>ids.elem id
 |.yld id=>ids.elem id
 |.fn _ cs=>nmL ids cs
 |.agg cs=>nmL ids cs
 |.tup cs=>nmL ids cs
 |_=>true
def nmL(ids:List Nat):List AV->Bool
 |[]=>true
 |c::cs=>nmV ids c&&nmL ids cs
end
theorem dd{ids:List Nat}:∀{cs:List AV},nmL ids cs=true->∀c∈cs,nmV ids c=true
 |[],_,c,hc=>by simp at hc
 |d::ds,h,c,hc=>by
  simp only[nmL,Bool.and_eq_true]at h;rcases List.mem_cons.1 hc with rfl|hc
  ·exact h.1
  ·exact dd h.2 c hc
theorem cC{ids:List Nat}{v:AV}{i:Nat}(hn:Names i v)(h:nmV ids v=true):i∈ids:=by
 induction hn with
 |lptr|osl|osub|optr|mref|yld=>simpa[nmV]using h
 |fn f caps c hm _ ih=>exact ih (dd (by simpa[nmV]using h) c hm)
 |agg cs c hm _ ih=>exact ih (dd (by simpa[nmV]using h) c hm)
 |tup cs c hm _ ih=>exact ih (dd (by simpa[nmV]using h) c hm)
theorem dC(f:Nat->Nat):∀cs:List AV,(reL f cs).length=cs.length
 |[]=>rfl
 |c::cs=>by simp[reL,dC f cs]
theorem wa(f:Nat->Nat):∀(cs:List AV) (i:Nat),(reL f cs)[i]? =(cs[i]?).map (reV f)
 |[],i=>by simp[reL]
 |c::cs,0=>by simp[reL]
 |c::cs,i+1=>by simp[reL,wa f cs i]
section
variable {ρ:Loc} {Im:Nat->Prop} {H:Heap}
mutual
theorem qv(f:Nat->Nat):∀(v:AV) (x:Value),Con ρ Im H (reV f v) x->Con (λi=>ρ (f i)) Im H v x
 |.lptr id off,x,h=>by
  simp only[reV]at h;cases h with
  |imm _ _ hi=>cases hi
  |lptr _ _ b hb=>exact .lptr id off b hb
 |.osl id n,x,h=>by
  simp only[reV]at h;cases h with
  |imm _ _ hi=>cases hi
  |osl _ _ h1 h2 h3=>exact Con.osl (ρ:=λi=>ρ (f i)) id n h1 h2 h3
 |.osub id off n sz,x,h=>by
  simp only[reV]at h;cases h with
  |imm _ _ hi=>cases hi
  |osub _ _ _ _ cap p h1 h2 h3=>exact Con.osub (ρ:=λi=>ρ (f i)) id off n sz cap p h1 h2 h3
 |.optr id sz i j,x,h=>by
  simp only[reV]at h;cases h with
  |imm _ _ hi=>cases hi
  |optr _ _ _ _ b hb=>exact .optr id sz i j b hb
 |.mref id,x,h=>by
  simp only[reV]at h;cases h with
  |imm _ _ hi=>cases hi
  |mref _ b hb=>exact .mref id b hb
 |.yld id,x,h=>by
  simp only[reV]at h;cases h with
  |imm _ _ hi=>cases hi
  |yld _ b hb=>exact .yld id b hb
 |.fn g cs,x,h=>by
  simp only[reV]at h;have:∃xs,x=.func (.func g) #[] xs/\Cons ρ Im H (reL f cs) xs:=by
   cases h with
   |imm _ _ hi=>
    cases hi with
    |fn _ _ xs hl hc=>exact⟨xs,rfl,hl,λi c x h1 h2=>.imm _ _ (hc i c x h1 h2)⟩
   |fn _ _ xs hl hc=>exact⟨xs,rfl,hl,hc⟩
  obtain⟨xs,rfl,hl,hc⟩:=this;exact .fn g cs xs (by rw[hl,dC]) (re_cons f cs xs hl hc)
 |.agg cs,x,h=>by
  simp only[reV]at h;obtain⟨xs,rfl,hl,hc⟩:=h.agg_inv;exact .agg cs xs (by rw[hl,dC]) (re_cons f cs xs hl hc)
 |.tup cs,x,h=>by
  simp only[reV]at h;obtain⟨xs,rfl,hl,hc⟩:=h.tup_inv;exact .tup cs xs (by rw[hl,dC]) (re_cons f cs xs hl hc)
 |.int k n,x,h=>by simp only[reV]at h;cases h with |imm _ _ hi=>exact .imm _ _ hi
 |.bool b,x,h=>by simp only[reV]at h;cases h with |imm _ _ hi=>exact .imm _ _ hi
 |.str s,x,h=>by simp only[reV]at h;cases h with |imm _ _ hi=>exact .imm _ _ hi
 |.junk,x,h=>.imm _ _ (.junk x)
 |.isl n sz g,x,h=>by simp only[reV]at h;cases h with |imm _ _ hi=>exact .imm _ _ hi
 |.icap n sz g,x,h=>by simp only[reV]at h;cases h with |imm _ _ hi=>exact .imm _ _ hi
 |.eptr n sz g i j,x,h=>by simp only[reV]at h;cases h with |imm _ _ hi=>exact .imm _ _ hi
 |.ibox cs off,x,h=>by simp only[reV]at h;cases h with |imm _ _ hi=>exact .imm _ _ hi
 |.emp,x,h=>by simp only[reV]at h;cases h with |imm _ _ hi=>exact .imm _ _ hi
 |.nils,x,h=>by simp only[reV]at h;cases h with |imm _ _ hi=>exact .imm _ _ hi
 |.niface,x,h=>by simp only[reV]at h;cases h with |imm _ _ hi=>exact .imm _ _ hi
 |.nfunc,x,h=>by simp only[reV]at h;cases h with |imm _ _ hi=>exact .imm _ _ hi
 |.nptr,x,h=>by simp only[reV]at h;cases h with |imm _ _ hi=>exact .imm _ _ hi
 |.nmap,x,h=>by simp only[reV]at h;cases h with |imm _ _ hi=>exact .imm _ _ hi
 |.iface t v,x,h=>by simp only[reV]at h;cases h with |imm _ _ hi=>exact .imm _ _ hi
theorem re_cons(f:Nat->Nat):∀(cs:List AV) (xs:Array Value),xs.size=(reL f cs).length->(∀(i:Nat) (c:AV) (x:Value),(reL f cs)[i]? =some c->xs[i]? =some x->Con ρ Im H c x)->
  ∀(i:Nat) (c:AV) (x:Value),cs[i]? =some c->xs[i]? =some x->Con (λi=>ρ (f i)) Im H c x
 |[],_,_,_,i,c,x,h,_=>by simp at h
 |d::ds,xs,hl,hc,0,c,x,h,hx=>by
  simp at h;subst h;exact qv f d x (hc 0 _ x (by simp[reL]) hx)
 |d::ds,xs,hl,hc,i+1,c,x,h,hx=>by
  refine re_cons f ds (xs.extract 1 xs.size) (by simp[reL]at hl⊢;omega) (λj c' x' h1 h2=>hc (j+1) c' x' (by simpa[reL]using h1) ?_) i c x (by simpa using h) ?_
  ·simp only[Array.getElem?_extract]at h2;split at h2
   ·rw[Nat.add_comm];exact h2
   ·cases h2
  ·simp only[Array.getElem?_extract];have:i+1<xs.size:=(Array.getElem?_eq_some_iff.1 hx).1;rw[if_pos ω,Nat.add_comm];exact hx
end
end
structure AvLe(u v:AV):Prop where
 con:∀(ρ:Loc) (Im:Nat->Prop) (H:Heap) (x:Value),Con ρ Im H u x->Con ρ Im H v x
theorem AvLe.rfl{u:AV}:AvLe u u:=⟨λ_ _ _ _ h=>h⟩
theorem AvLe.of_eq{u v:AV}(h:u=v):AvLe u v:=h▸AvLe.rfl
theorem AvLe.int{k:IntKind}{a b:Int}(h:a=b):AvLe (.int k a) (.int k b):=AvLe.of_eq (by rw[h])
theorem AvLe.junk{u:AV}:AvLe u .junk:=⟨λ_ _ _ x _=>.imm _ _ (.junk x)⟩
theorem AvLe.nils{sz:Nat}{g:Nat->List AV}:AvLe .nils (.isl 0 sz g):=⟨λ_ _ _ _ h=>by cases h.nils_inv;exact .imm _ _ (.isl0 _ _ _)⟩
theorem AvLe.isl{n n' sz:Nat}{g g':Nat->List AV}(hn:n=n')(h:∀i,i<n->g i=g' i):AvLe (.isl n sz g) (.isl n' sz g'):=by
 subst hn;refine⟨λρ Im H x hx=>?_⟩;cases hx with
 |imm _ _ hi=>
  cases hi with
  |isl0=>exact .imm _ _ (.isl0 _ _ _)
  |isl _ _ _ b off cap arr T fr him hb hsz hn hbd hfit hc=>
   exact .imm _ _ (.isl _ _ _ b off cap arr T fr him hb (λi hi=>by rw[<-h i hi];exact hsz i hi) hn hbd hfit λi j c x hi h1 h2=>hc i j c x hi (by rw[h i hi];exact h1) h2)
inductive AvsLe:List AV->List AV->Prop
 |nil:AvsLe [] []
 |cons {u v us vs} (h:AvLe u v) (hs:AvsLe us vs):AvsLe (u::us) (v::vs)
theorem AvsLe.length{us vs:List AV}(h:AvsLe us vs):us.length=vs.length:=by
 induction h with
 |nil=>rfl
 |cons _ _ ih=>simp[ih]
theorem AvsLe.get{us vs:List AV}(h:AvsLe us vs):∀(i:Nat) (v:AV),vs[i]? =some v->∃u,us[i]? =some u/\AvLe u v:=by
 induction h with
 |nil=>intro i v h;simp at h
 |cons h1 _ ih=>
  intro i v hv;cases i with
  |zero=>simp at hv;subst hv;exact⟨_,by simp,h1⟩
  |succ i=>simpa using ih i v (by simpa using hv)
theorem AvLe.agg{us vs:List AV}(h:AvsLe us vs):AvLe (.agg us) (.agg vs):=by
 refine⟨λρ Im H x hx=>?_⟩;obtain⟨xs,rfl,hl,hc⟩:=hx.agg_inv;exact .agg vs xs (by rw[hl,h.length]) λi c x h1 h2=>by
  obtain⟨u,hu,hle⟩:=h.get i c h1;exact hle.con _ _ _ _ (hc i u x hu h2)
theorem AvLe.tup{us vs:List AV}(h:AvsLe us vs):AvLe (.tup us) (.tup vs):=by
 refine⟨λρ Im H x hx=>?_⟩;obtain⟨xs,rfl,hl,hc⟩:=hx.tup_inv;exact .tup vs xs (by rw[hl,h.length]) λi c x h1 h2=>by
  obtain⟨u,hu,hle⟩:=h.get i c h1;exact hle.con _ _ _ _ (hc i u x hu h2)
structure ObLe(u v:LObj):Prop where
 live:u.live=v.live
 con:∀(ρ:Loc) (Im:Nat->Prop) (H:Heap) (id:Nat),ObjCon ρ Im H id u->ObjCon ρ Im H id v
theorem ObLe.rfl{u:LObj}:ObLe u u:=⟨_root_.rfl,λ_ _ _ _ h=>h⟩
theorem ObLe.of_eq{u v:LObj}(h:u=v):ObLe u v:=h▸ObLe.rfl
theorem ObLe.arr{n n' sz:Nat}{g g':Nat->List AV}{T:Nat}(hn:n=n')(h:∀i,i<n->g i=g' i):ObLe (.arr n sz g T) (.arr n' sz g' T):=by
 subst hn;refine⟨_root_.rfl,λρ Im H id hc=>?_⟩;cases hc with
 |arr0 _ _ _ h1=>exact .arr0 _ _ _ h1
 |arr _ _ _ _ b xs h1 h2 h3 h4 h5 h6 h7 h8=>exact .arr _ _ _ _ b xs h1 h2 h3 h4 h5 h6 (λi hi=>by rw[<-h i hi];exact h7 i hi) λi j c x hi h9 h10=>h8 i j c x hi (by rw[h i hi];exact h9) h10
theorem ObLe.box{us vs:List AV}(h:AvsLe us vs):ObLe (.box us) (.box vs):=by
 refine⟨_root_.rfl,λρ Im H id hc=>?_⟩;cases hc with
 |box _ b xs T h1 h2 h3=>
  refine .box vs b xs T h1 h2 ⟨by rw[h3.1,h.length],λi c x h4 h5=>?_⟩;obtain⟨u,hu,hle⟩:=h.get i c h4;exact hle.con _ _ _ _ (h3.2 i u x hu h5)
def obCl(ids:List Nat):LObj->Prop
 |.box cs=>nmL ids cs=true
 |.arr n _ get _=>∀i,i<n->nmL ids (get i)=true
 |.map kvs=>∀k v,(k,v)∈kvs->nmV ids k=true/\nmV ids v=true
 |.lrec _ _ _ cs _ _ _ _=>nmL ids cs=true
 |.dead=>True
theorem f9{ids:List Nat}{ob:LObj}(h:obCl ids ob){i:Nat}(hn:NamesO i ob):i∈ids:=by
 cases hn with
 |box cells c hm hn=>exact cC hn (dd h c hm)
 |arr n sz get T j c hj hm hn=>exact cC hn (dd (h j hj) c hm)
 |mapK kvs k v hm hn=>exact cC hn (h k v hm).1
 |mapV kvs k v hm hn=>exact cC hn (h k v hm).2
 |lrec st pe ks cs ps assign body nt c hm hn=>exact cC hn (dd h c hm)
def reO(f:Nat->Nat):LObj->LObj
 |.box cs=>.box (reL f cs)
 |.arr n sz get T=>.arr n sz (λi=>reL f (get i)) T
 |.map kvs=>.map (kvs.map λp=>(reV f p.1,reV f p.2))
 |.lrec st pe ks cs ps assign body nt=>.lrec st pe ks (reL f cs) ps assign body nt
 |.dead=>.dead
theorem rI(f:Nat->Nat)(ob:LObj):(reO f ob).live=ob.live:=by cases ob<;>rfl
theorem GA{ρ:Loc}{Im:Nat->Prop}{H:Heap}{f:Nat->Nat}{id:Nat}{ob:LObj}(h:ObjCon ρ Im H (f id) (reO f ob)):ObjCon (λi=>ρ (f i)) Im H id ob:=by
 cases ob with
 |box cs=>
  cases h with
  |box _ b xs T h1 h2 h3=>exact .box cs b xs T h1 h2 ⟨by rw[h3.1,dC],re_cons f cs xs h3.1 h3.2⟩
 |arr n sz get T=>
  cases h with
  |arr0 _ _ _ h1=>exact .arr0 _ _ _ h1
  |arr _ _ _ _ b xs h1 h2 h3 h4 h5 h6 h7 h8=>
   refine .arr n sz get T b xs h1 h2 h3 h4 h5 h6 (λi hi=>by rw[<-h7 i hi,dC]) λi j c x hi h9 h10=>?_;exact qv f c x (h8 i j _ x hi (by rw[wa,h9];rfl) h10)
 |map kvs=>
  cases h with
  |map _ b es clock h1 h2 h3 h4=>
   refine .map kvs b es clock h1 h2 (by rw[h3];simp) λi k v e h5 h6=>?_;have:=h4 i (reV f k) (reV f v) e (by simp[h5]) h6;exact⟨qv f k _ this.1,qv f v _ this.2⟩
 |lrec st pe ks cs ps assign body nt=>
  cases h with
  |lrec _ _ _ _ _ _ _ _ b r h1 h2 h3 h4=>
   refine .lrec st pe ks cs ps assign body nt b r h1 h2 { h3 with len:=by rw[h3.len,dC] } λi k c h5 h6=>?_;obtain⟨x,hx,hc⟩:=h4 i k _ h5 (by rw[wa,h6];rfl);exact⟨x,hx,qv f c x hc⟩
 |dead=>exact .dead
def luN:List (Nat×Nat)->Nat->Nat
 |[],i=>i
 |(k,v)::r,i=>bif Nat.beq i k then v else luN r i
def subE(A:St)(f:Nat->Nat)(ids:List Nat):List (Nat×AV)->Prop
 |[]=>True
 |(k,v)::r=>(nmV ids v=true/\match luS A.env k with |some u=>AvLe u (reV f v)|none=>False)/\subE A f ids r
def subO(A:St)(f:Nat->Nat)(ids:List Nat):Xb->Prop
 |[]=>True
 |(i,some ob)::r=>(obCl ids ob/\match luB A.objs (f i)with |some u=>ObLe u (reO f ob)|none=>False)/\subO A f ids r
 |(_,none)::_=>False
def xD:List Nat->Bool
 |[]=>true
 |x::r=>!r.elem x&&xD r
def Sub(X:Frm)(re:List (Nat×Nat))(A B:St):Prop :=
 (xD ((B.objs.map (·.1)).map (luN re))=true/\(X.pid.all λi=>(B.objs.map (·.1)).elem i&&Nat.beq (luN re i) i)=true)/\subO A (luN re) (B.objs.map (·.1)) B.objs/\subE A (luN re) (B.objs.map (·.1)) B.env
theorem lM{f:Nat->Nat}:∀{l:List Nat},xD (l.map f)=true->∀x∈l,∀y∈l,f x=f y->x=y
 |[],_,x,hx,_,_,_=>by simp at hx
 |a::r,h,x,hx,y,hy,he=>by
  simp only[List.map_cons,xD,Bool.and_eq_true,Bool.not_eq_true']at h;have hna:∀z∈r,f z≠f a:=λz hz e=>by
   have h1:=h.1;rw[List.elem_eq_true_of_mem (by rw[<-e];exact List.mem_map.2 ⟨z,hz,rfl⟩)]at h1;cases h1
  rcases List.mem_cons.1 hx with hxa|hx
  ·rcases List.mem_cons.1 hy with hya|hy
   ·rw[hxa,hya]
   ·rw[hxa]at he;exact absurd he.symm (hna y hy)
  ·rcases List.mem_cons.1 hy with hya|hy
   ·rw[hya]at he;exact absurd he (hna x hx)
   ·exact lM h.2 x hx y hy he
theorem tN{A:St}{f:Nat->Nat}{ids:List Nat}:∀{l:List (Nat×AV)},subE A f ids l->∀k v,luS l k=some v->nmV ids v=true/\∃u,A.s k=some u/\AvLe u (reV f v)
 |[],_,k,v,h=>by simp[luS]at h
 |(k0,v0)::r,hs,k,v,h=>by
  simp only[luS,aG]at h;split at h
  ·rename_i hk;subst hk;simp only[Option.some.injEq]at h;subst h;refine⟨hs.1.1,?_⟩;have:=hs.1.2;cases hl:luS A.env k with
   |none=>rw[hl]at this;exact this.elim
   |some u=>rw[hl]at this;exact⟨u,hl,this⟩
  ·exact tN hs.2 k v h
theorem tO{A:St}{f:Nat->Nat}{ids:List Nat}:∀{l:Xb},subO A f ids l->∀i,(i∈l.map (·.1)->luB l i≠none)/\∀ob,luB l i=some ob->i∈l.map (·.1)/\obCl ids ob/\∃u,A.o (f i)=some u/\ObLe u (reO f ob)
 |[],_,i=>⟨by simp,λob h=>by simp[luB]at h⟩
 |(i0,none)::r,hs,i=>hs.elim
 |(i0,some ob0)::r,hs,i=>by
  simp only[luB,aG];by_cases hi:i=i0
  ·subst hi;rw[if_pos rfl];refine⟨λ_=>by simp,λob h=>?_⟩;simp only[Option.some.injEq]at h;subst h;refine⟨by simp,hs.1.1,?_⟩;have:=hs.1.2;cases hl:luB A.objs (f i)with
   |none=>rw[hl]at this;exact this.elim
   |some u=>rw[hl]at this;exact⟨u,hl,this⟩
  ·rw[if_neg hi];obtain⟨h1,h2⟩:=tO hs.2 i;exact⟨λh=>h1 (by simpa[hi]using h),λob h=>by obtain⟨h3,h4⟩:=h2 ob h;exact⟨by simp[h3],h4⟩⟩
theorem fF{X:Frm}(re:List (Nat×Nat)){A B:St}(h:Sub X re A B):Ghost X A B:=by
 obtain⟨⟨hnd,hpid⟩,ho,he⟩:=h;refine⟨?_⟩;rintro a w ⟨ρ,Im,hr⟩;have hO:=tO ho;have hE:=tN he;have hin:∀i,i∈B.objs.map (·.1)->B.o i≠none:=λi hi=>(hO i).1 hi;refine ⟨fun i=>ρ (luN re i),Im,
  {objs:=fun id ob hob=>?_,own:=fun id ob b hob hl hb=>?_,inj:=fun id id' ob ob' b hob hl hob' hl' hb hb'=>?_,ocl:=fun id ob hob i hi=>hin i (f9 ((hO id).2 ob hob).2.1 hi),imlt:=hr.imlt,im0:=hr.im0,imf:=hr.imf,
   os:=hr.os,tape:=hr.tape,output:=hr.output,size:=hr.size,frame:=hr.frame,pin:=λid hp=>?_,slots:=λk v hv=>?_,scl:=λk v hv i hi=>hin i (cC hi (hE k v hv).1),defers:=hr.defers,nt:=hr.nt,lrc:=hr.lrc,rnd:=hr.rnd }⟩
 ·obtain⟨_,_,u,hu,hle⟩:=(hO id).2 ob hob;exact GA (hle.2 _ _ _ _ (hr.objs _ u hu))
 ·obtain⟨_,_,u,hu,hle⟩:=(hO id).2 ob hob;have hlu:u.live=true:=by rw[hle.1,rI];exact hl
  obtain⟨h1,h2,h3⟩:=hr.own _ u b hu hlu hb;refine⟨h1,h2,?_⟩;rcases h3 with h3|h3
  ·exact .inl h3
  ·right
   rw[List.all_eq_true]at hpid;have hq:=hpid _ h3;simp only[Bool.and_eq_true]at hq;have e1:luN re (luN re id)=luN re id:=Nat.eq_of_beq_eq_true hq.2;have hm:luN re id∈B.objs.map (·.1):=by simpa using hq.1
   have:=lM hnd (luN re id) hm id ((hO id).2 ob hob).1 e1;rw[<-this];exact h3
 ·obtain⟨hm,_,u,hu,hle⟩:=(hO id).2 ob hob;obtain⟨hm',_,u',hu',hle'⟩:=(hO id').2 ob' hob';have:=hr.inj _ _ u u' b hu (by rw[hle.1,rI];exact hl) hu' (by rw[hle'.1,rI];exact hl') hb hb';exact lM hnd id hm id' hm' this
 ·rw[List.all_eq_true]at hpid;have hq:=hpid _ hp;simp only[Bool.and_eq_true]at hq;have e1:luN re id=id:=Nat.eq_of_beq_eq_true hq.2;exact⟨by rw[e1];exact(hr.pin id hp).1,hin id (by simpa using hq.1)⟩
 ·obtain⟨_,u,hu,hle⟩:=hE k v hv;obtain⟨x,hx,hc⟩:=hr.slots k u hu;exact⟨x,hx,qv _ v x (hle.con _ _ _ _ hc)⟩
section
variable {P:Program} {X:Frm}
theorem gM{c:Code}{A B:St}{K:Exit->St->Prop}(hg:Ghost X A B)(h:GoodS P X c B K):GoodS P X c A K:=⟨λa w hr=>h.run a w (hg.run a w hr)⟩
def loopK(X:Frm){ι:Type}(F:ι->St)(μ:ι->Nat)(i:ι)(K:Exit->St->Prop):Exit->St->Prop
 |.normal,B=>∃j,Ghost X B (F j)/\μ j<μ i
 |e,B=>K e B
theorem Bg{c:Code}{A:St}{K:Exit->St->Prop}{ι:Type}(F:ι->St)(μ:ι->Nat)(i0:ι)(h0:Ghost X A (F i0))(h:∀i,GoodS P X c (F i) (loopK X F μ i K)):LoopG P X (.loop c) A K:=by
 refine⟨⟨λa w hr=>?_⟩⟩;intro b k cs hro hb hrm;have key:∀(n:Nat) (i:ι) (a:Act) (w:World),μ i=n->Rel X (F i).s (F i).o a w->
   ∃e a' w',(∃B:St,K e B/\Rel X B.s B.o a' w')/\ArrivesIn (Machine.fenced P (rf X.w0.ro)) P (lone (b.atR a (.code c::.inLoop c::k)) cs w) b k cs e a' w':=by
  intro n;induction n using Nat.strongRecOn with
  |_ n ih=>
   intro i a w hn hI;obtain⟨e,a₁,w₁,⟨B,hq,hB⟩,harr⟩:=(h i).run a w hI b (.inLoop c::k) cs hro hb hrm;cases e with
   |normal=>
    obtain⟨j,hg,hlt⟩:=hq;obtain⟨e₂,a₂,w₂,hq₂,harr₂⟩:=ih (μ j) (hn▸hlt) j a₁ w₁ _root_.rfl (hg.run _ _ hB);exact⟨e₂,a₂,w₂,hq₂,.of_steps (StepsIn.trans harr (.one (fenced_calm hb hrm _root_.rfl) stepR_inLoop)) harr₂⟩
   |exit id=>exact⟨_,a₁,w₁,⟨B,hq,hB⟩,.pass (x:=.inLoop c) rfl (λ_ _=>.inl η) harr⟩
   |goto l=>exact⟨_,a₁,w₁,⟨B,hq,hB⟩,.pass (x:=.inLoop c) rfl (λ_ _=>.inl η) harr⟩
   |ret=>exact⟨_,a₁,w₁,⟨B,hq,hB⟩,.pass (x:=.inLoop c) rfl (λ_ _=>.inl η) harr⟩
   |panic ch=>exact⟨_,a₁,w₁,⟨B,hq,hB⟩,.pass (x:=.inLoop c) rfl (λ_ _=>.inl η) harr⟩
   |outgrown=>exact⟨_,a₁,w₁,⟨B,hq,hB⟩,.pass (x:=.inLoop c) rfl (λ_ _=>.inl η) harr⟩
 obtain⟨e,a',w',hq,harr⟩:=key _ i0 a w _root_.rfl (h0.run a w hr);exact⟨e,a',w',hq,.of_steps (.one (fenced_calm hb hrm _root_.rfl) stepR_loop) harr⟩
theorem RelAt.unmark{ρ:Loc}{Im:Nat->Prop}{s:Nat->Option AV}{o:Xd}{a:Act}{w:World}(h:RelAt X ρ Im s o a w){d:Deferred}{ds:List Deferred}(hd:a.defers=d::ds) :
  ∃D w',d.target=.collected D/\(Instr.takeDeferred D).run P w=.ok [] w'/\RelAt X ρ Im s o { a with defers:=ds } w':=by
 have hdf:=h.defers;rw[hd]at hdf;obtain⟨D,rfl,hD,hI,hX⟩:=hdf.mark d η;have hlt:D<w.heap.size:=(Array.getElem?_eq_some_iff.1 hD).1;have hne:∀b,b≠D->(w.putObj D (.deferred none)).heap[b]? =w.heap[b]?:=λb hb=>World.putObj_heap_other (λe=>hb e);have him:∀b,Im b->(w.putObj D (.deferred none)).heap[b]? =w.heap[b]?:=λb hb=>hne b λe=>hI (e▸hb);have hob:∀id ob,o id=some ob->ob.live=true->∀b,(ρ id).1=some b->b≠D:=λid ob h1 hl b hb e=>((h.objs id ob h1).noSys hl hb).1 _ (e▸hD);have hsz:(w.putObj D (.deferred none)).heap.size=w.heap.size:=by simp[World.putObj]
 refine ⟨D,_,rfl,run_takeDeferred hD,
  {objs:=fun id ob h1=>?_,own:=fun id ob b h1 hl hb=>by rw[hsz];exact h.own id ob b h1 hl hb,inj:=h.inj,ocl:=h.ocl,imlt:=fun b hb=>by rw[hsz];exact h.imlt b hb,im0:=h.im0,imf:=h.imf,os:=h.os,tape:=h.tape,output:=h.output,
   size:=by rw[hsz];exact h.size,frame:=λb hb hp=>(hne b ω).trans (h.frame b hb hp),pin:=h.pin,lrc:=λl r hl=>?_,rnd:=h.rnd,
   slots:=λk v hv=>let⟨x,hx,hc⟩:=h.slots k v hv;⟨x,hx,hc.mono (λb hb=>hb) him⟩,scl:=h.scl,nt:=h.nt,defers:=⟨λd hd'=>?_,(List.nodup_cons.1 hdf.nd).2⟩ }⟩
 ·by_cases hl:ob.live=true
  ·exact(h.objs id ob h1).move (λb hb=>hb) him (λb hb=>hne b (hob id ob h1 hl b hb)) rfl λ_ _=>rfl
  ·cases ob with
   |dead=>exact .dead
   |_=>simp[LObj.live]at hl
 ·obtain⟨st,pe,h1⟩:=h.lrc l r hl;exact⟨st,pe,(hne l λe=>by rw[e,hD]at h1;cases h1).trans h1⟩
 ·obtain⟨D2,rfl,h2,h3,h4⟩:=hdf.mark d (by simp[hd']);refine⟨D2,rfl,(hne D2 λe=>?_).trans h2,h3,h4⟩;subst e;exact(List.nodup_cons.1 hdf.nd).1 hd'
theorem k9{fn:Func}{R:Ending->World->Prop}{ρ:Loc}{Im:Nat->Prop}{s:Nat->Option AV}{o:Xd}:∀(ds:List Deferred) (a:Act) (w:World),a.defers=ds->RelAt X ρ Im s o a w->
  (∀w2,RelAt X ρ Im s o { a with defers:=[] } w2->∃v,(results fn a.tmps).run P w2=.ok v w2/\R (.returned v) w2)->LeavesInM Fence.wide 0 P fn a.tmps R ds .returning w
 | [],a,w,hd,hr,k=>k w (by
   have e:({ a with defers:=[] }:Act)=a:=by cases a;simp at hd;simp[hd]
   rw[e];exact hr)
 |d::ds,a,w,hd,hr,k=>by
  obtain⟨D,w',h1,h2,h3⟩:=hr.unmark (P:=P) hd;exact⟨by simp,.inl ⟨D,w',h1,h2,k9 ds { a with defers:=ds } w' rfl h3 k⟩⟩
theorem dE{b:Frame}{a:Act}{k:List Item}{cs:List Frame}{w:World}{c:Code}:step P (lone (b.atR a (.code (.scope c)::k)) cs w)=.next (lone (b.atR a (.code c::.inScope c::k)) cs w) :=
 step_lone_go (by simp[stepG,stepG.exec,Frame.atR])
theorem rJ{b:Frame}{a:Act}{k:List Item}{cs:List Frame}{w:World}{c:Code}:step P (lone (b.atR a (.inScope c::k)) cs w)=.next (lone (b.atR a k) cs w) :=
 step_lone_go (by simp[stepG,stepG.exec,Frame.atR])
theorem zA{F:Fence}{n:Nat}{Q:Exit->Act->World->Prop}{a:Act}{w:World}{c:Code}(h:c.wpIn F n P (Exit.noGoto Q) a w):(Code.scope c).wpIn F n P Q a w:=by
 intro b k cs hro hb hr;have h0:(lone (b.atR a (.code (.scope c)::k)) cs w).fenced P F:=fenced_calm hb hr rfl;obtain⟨e,a₁,w₁,hq,harr⟩:=h b (.inScope c::k) cs hro hb hr;have hx:∀id,exitTo id (.inScope c::k)=exitTo id k:=λid=>by simp[exitTo]
 cases e with
 |normal=>exact⟨.normal,a₁,w₁,hq,.head h0 dE (StepsIn.trans harr (.one (fenced_calm hb hr rfl) rJ))⟩
 |exit id=>
  exact⟨.exit id,a₁,w₁,hq,λk' hk=>.head h0 dE (harr.1 k' (by rw[hx];exact hk)),λhr' hk=>let⟨k₁,h1,h2⟩:=harr.2 hr' (by rw[hx];exact hk);⟨k₁,h1,.head h0 dE h2⟩⟩
 |goto l=>exact hq.elim
 |ret=>exact⟨_,a₁,w₁,hq,.of_steps (.one h0 dE) harr⟩
 |panic ch=>exact⟨_,a₁,w₁,hq,.of_steps (.one h0 dE) harr⟩
 |outgrown=>exact⟨_,a₁,w₁,hq,.of_steps (.one h0 dE) harr⟩
def fG(T:Tab)(A:St):List ResultVar->(List AV->Prop)->Prop
 |[],k=>k []
 |.tmp t::r,k=>match luS A.env t with
  |some v=>fG T A r λvs=>k (v::vs)
  |none=>False
 |.cell t ty::r,k=>match luS A.env t,luT T ty with
  |some p,some ti=>hZ A.o p λcs off _=>nB ti cs off λv=>fG T A r λvs=>k (v::vs)
  |_,_=>False
def fW:List AV->AV
 |[v]=>v
 |vs=>.tup vs
def nI(tmps:Array Value):ResultVar->Sem Value
 |.tmp t=>pure (tmps.getD t undef)
 |.cell t ty=>do loadVar ty (<-asAddr (tmps.getD t undef))
theorem jV{T:Tab}(hT:fB P T){A:St}:∀(l:List ResultVar) {k:List AV->Prop},fG T A l k->
  ∃ vs,k vs/\∀ (ρ:Loc) (Im:Nat -> Prop) (a:Act) (w:World),RelAt X ρ Im A.s A.o a w -> (∃ys:List Value,(l.mapM (nI a.tmps)).run P w=.ok ys w/\
   Cons ρ Im w.heap vs ys.toArray)
 |[],k,h=>⟨[],h,λρ Im a w _=>⟨[],by simp,rfl,by intro i c x hc;simp at hc⟩⟩
 |.tmp t::r,k,h=>by
  simp only[fG]at h;split at h
  ·rename_i v hv;obtain⟨vs,hk,hrun⟩:=jV hT r h;refine⟨v::vs,hk,λρ Im a w hr=>?_⟩;obtain⟨ys,hy,hl,hc⟩:=hrun ρ Im a w hr;obtain⟨x,hx,hcx⟩:=hr.slots t v hv;refine⟨x::ys,?_,by simpa using hl,λi c y h1 h2=>?_⟩
   ·have e1:(nI a.tmps (.tmp t)).run P w=.ok x w:=by simp[nI,hx]
    rw[List.mapM_cons];simp only[Sem.run_bind,Sem.run_pure,Result.andThen_ok,hy,e1]
   ·cases i with
    |zero=>simp at h1 h2;subst h1;subst h2;exact hcx
    |succ i=>exact hc i c y (by simpa using h1) (by simpa using h2)
  ·exact h.elim
 |.cell t ty::r,k,h=>by
  simp only[fG]at h;split at h
  ·rename_i p ti hp hti;obtain⟨cs,off,ro,h1,hptr⟩:=jK h;obtain⟨v,h2,_,hload⟩:=mI (hT ty ti hti) h1;obtain⟨vs,hk,hrun⟩:=jV hT r h2;refine⟨v::vs,hk,λρ Im a w hr=>?_⟩;obtain⟨ys,hy,hl,hc⟩:=hrun ρ Im a w hr;obtain⟨x,hx,hcx⟩:=hr.slots t p hp;obtain⟨b,base,arr,T',fr,rfl,hb,hfit,hcell,_⟩:=hptr A.o (λ_ _=>rfl) X ρ Im w hr.toMem x hcx;obtain⟨y,hly,hcy⟩:=hload ρ Im w b base arr T' fr hb hfit hcell;refine⟨y::ys,?_,by simpa using hl,λi c z h3 h4=>?_⟩
   ·have hly':(loadVar ty ⟨b,base+off,none⟩).run P w=.ok y w:=by
     simpa[Instr.loadAt,Instr.sureAddr]using hly
    have hg:a.tmps.getD t undef=.pointer (some ⟨b,base+off,none⟩):=by simp[hx]
    have e1:(nI a.tmps (.cell t ty)).run P w=.ok y w:=by
     simp only[nI,hg];simp[asAddr,hly']
    rw[List.mapM_cons];simp only[Sem.run_bind,Sem.run_pure,Result.andThen_ok,hy,e1]
   ·cases i with
    |zero=>simp at h3 h4;subst h3;subst h4;exact hcy
    |succ i=>exact hc i c z (by simpa using h3) (by simpa using h4)
  ·exact h.elim
theorem wb{fn:Func}{a:Act}{w:World}{ys:List Value}(h:(fn.results.toList.mapM (nI a.tmps)).run P w=.ok ys w):(results fn a.tmps).run P w=.ok (if h:ys.length=1 then ys[0]else .tuple ys.toArray) w:=by
 have e:results fn a.tmps = (do
   let vs <-fn.results.mapM (nI a.tmps)
   pure (if h:vs.size=1 then vs[0]else .tuple vs)):=rfl
 rw[e,Array.mapM_eq_mapM_toList];simp only[Sem.run_bind,Sem.run_map,h,Result.andThen_ok,Sem.run_pure];rfl
def kA:Nat->List AV->List (Nat×AV)
 |_,[]=>[]
 |i,v::vs=>(i,v)::kA (i+1) vs
theorem lN:∀(vs:List AV) (i k:Nat) (v:AV),luS (kA i vs) k=some v->∃j,k=i+j/\vs[j]? =some v
 |[],i,k,v,h=>by simp[kA,luS]at h
 |u::vs,i,k,v,h=>by
  simp only[kA,luS,aG]at h;split at h
  ·rename_i hk;simp only[Option.some.injEq]at h;exact⟨0,ω,by simp[h]⟩
  ·obtain⟨j,h1,h2⟩:=lN vs (i+1) k v h;exact⟨j+1,ω,by simpa using h2⟩
def Fin(T:Tab)(X:Frm)(rs:List ResultVar)(r:AV)(outs:Xc):Exit->St->Prop
 |.normal,B=>∃C,Ghost X B C/\fG T C rs (λvs=>AvLe (fW vs) r)/\dB C.o outs
 |.ret,B=>∃C,Ghost X B C/\fG T C rs (λvs=>AvLe (fW vs) r)/\dB C.o outs
 |_,_=>False
theorem tP{T : Tab}(hT : fB P T){f : FuncId}{fn : Func}{c : Code}(hf : P.funcs[f]? =some fn)(hb : fn.body=some c)(hname : (fn.name== "runtime.NumGoroutine")=false){args : List AV}{ins outs : Xc}{r : AV}
  (hlen:args.length<=fn.ntmps)
  (hcl:(ins.all λp=>p.2.live)=true/\nmL (ins.map (·.1)) args=true/\nmV (outs.map (·.1)) r=true/\(∀p∈ins,obCl (ins.map (·.1)) p.2)/\(∀p∈outs,obCl (outs.map (·.1)) p.2)/\(ins.all λp=>(outs.map (·.1)).elem p.1)=true)
  (h:∀(w0:World0) (Im0:Nat->Prop) (ρ0:Loc),GoodS P ⟨w0,Im0,ins.map (·.1),ρ0,fn.ntmps⟩ c ⟨kA 0 args,aS ins⟩ (Fin T ⟨w0,Im0,ins.map (·.1),ρ0,fn.ntmps⟩ fn.results.toList r outs)) :
  CallSpec P f args ins r outs:=by
 obtain⟨hlive,hna,hnr,hci,hco,hio⟩:=hcl;have mem_of:∀{l:Xc} {id:Nat} {ob:LObj},luL l id=some ob->(id,ob)∈l:=by
  intro l;induction l with
  |nil=>intro id ob h;simp[luL]at h
  |cons p r ih=>
   obtain⟨k,v⟩:=p;intro id ob h;simp only[luL,aG]at h;split at h
   ·rename_i hk;simp only[Option.some.injEq]at h;subst hk;subst h;simp
   ·simp[ih h]
 refine⟨λxs w=>?_,λid ob hl i hi=>bO.2 (f9 (hci _ (mem_of hl)) hi),λid ob hl=>?_,λw ρ Im xs hm hx=>?_⟩
 ·have hne : ¬fn.name= "runtime.NumGoroutine" := by simpa using hname
  simp[callFunc,hf,hne,hb]
 ·rw[List.all_eq_true]at hlive;exact hlive _ (mem_of hl)
 ·have hxs:xs.size=args.length:=hx.1;have hlO:∀i,luB (aS ins) i=luL ins i:=by
   intro i;clear hm h hlive hna hci hio mem_of;induction ins with
   |nil=>rfl
   |cons p r ih=>obtain⟨k,v⟩:=p;simp only[aS,luB,luL,ih]
  refine callsIn_wide.1 (callsIn_of_wp_marks (F:=Fence.wide) (n:=0) hf hb trivial (Go.wpIn_mono ((h ⟨w,none⟩ Im ρ).run { tmps:=xs++Array.replicate (fn.ntmps-xs.size) undef,defers:=[] } w ⟨ρ,Im,?_⟩) ?_))
  ·exact
    {objs:=fun id ob hob=>hm.objs id ob (by rw[<-hlO];exact hob),own:=fun id ob b hob=>hm.own id ob b (by rw[<-hlO];exact hob),inj:=fun id id' ob ob' b h1 h2 h3=>hm.inj id id' ob ob' b (by rw[<-hlO];exact h1) h2 (by rw[<-hlO];exact h3),
     ocl:=λid ob hob i hi=>by show luB (aS ins) i≠none;rw[hlO];exact hm.ocl id ob (by rw[<-hlO];exact hob) i hi,imlt:=hm.imlt,im0:=hm.im0,imf:=hm.imf,os:=hm.os,tape:=hm.tape,output:=hm.output,size:=hm.size,frame:=hm.frame,
     pin:=λid hp=>⟨rfl,by show luB (aS ins) id≠none;rw[hlO];exact(hm.pin id hp).2⟩,lrc:=hm.lrc,rnd:=hm.rnd,
     slots:=λk v hv=>by
      obtain⟨j,hj,hv⟩:=lN args 0 k v hv;simp only[Nat.zero_add]at hj;subst hj;have hlt:k<args.length:=(List.getElem?_eq_some_iff.1 hv).1;refine⟨xs[k]'ω,?_,hx.2 k v _ hv η⟩;rw[Array.getElem?_append_left ω];simp
     scl:=λk v hv i hi=>by
      obtain⟨j,hj,hv⟩:=lN args 0 k v hv;show luB (aS ins) i≠none;rw[hlO];exact bO.2 (cC hi (dd hna v (List.mem_of_getElem? hv))),
     defers:=DefOk.nil _ _ _,nt:=by simp;omega }
  ·rintro e a' w' ⟨B,hk,hB⟩;have fin:(∃C,Ghost ⟨⟨w,none⟩,Im,ins.map (·.1),ρ,fn.ntmps⟩ B C/\fG T C fn.results.toList (λvs=>AvLe (fW vs) r)/\dB C.o outs)->LeavesInM Fence.wide 0 P fn a'.tmps (λe w'=>∃y ρ' Im',e=.returned y/\Con ρ' Im' w'.heap r y/\(∀i,Names i r->luL outs i≠none)/\Mem (cB w Im ins ρ 0) ρ' Im' (luL outs) w') a'.defers .returning w':=by
    rintro⟨C,hg,hres,hout⟩;obtain⟨ρ',Im',hr⟩:=hg.run a' w' hB;obtain⟨vs,hle,hrun⟩:=jV (X:=⟨⟨w,none⟩,Im,ins.map (·.1),ρ,fn.ntmps⟩) hT _ hres;refine k9 a'.defers a' w' rfl hr λw' hr=>?_;obtain⟨ys,hy,hl,hc⟩:=hrun ρ' Im' _ w' hr;have ho:=gL hout;refine⟨_,wb (a:={ a' with defers:=[] }) hy,_,ρ',Im',rfl,hle.con _ _ _ _ ?_,λi hi=>bO.2 (cC hi hnr),?_⟩
    ·have hlys:ys.length=vs.length:=by simpa using hl
     match vs,hlys,hl,hc with
     |[],hlys,hl,hc=>
      have:ys=[]:=List.eq_nil_of_length_eq_zero hlys;subst this;simp only[List.length_nil,Nat.zero_ne_one,dite_false,fW];exact .tup [] _ hl hc
     |[v],hlys,hl,hc=>
      match ys,hlys with
      |[y],_=>
       simp only[List.length_singleton,dite_true,List.getElem_cons_zero,fW];exact hc 0 v y rfl rfl
     |u::v::vs,hlys,hl,hc=>
      rw[dif_neg (by rw[hlys];simp)];exact .tup _ _ hl hc
    ·exact
      {objs:=fun id ob h1=>hr.objs id ob (ho id ob h1),own:=fun id ob b h1 h2 h3=>hr.own id ob b (ho id ob h1) h2 h3,inj:=fun id id' ob ob' b h1 h2 h3 h4 h5 h6=>hr.inj id id' ob ob' b (ho id ob h1) h2 (ho id' ob' h3) h4 h5 h6,
       ocl:=λid ob h1 i hi=>bO.2 (f9 (hco _ (mem_of h1)) hi),imlt:=hr.imlt,im0:=hr.im0,imf:=hr.imf,os:=hr.os,tape:=hr.tape,output:=hr.output,size:=hr.size,frame:=hr.frame,
       pin:=fun id hp=>⟨(hr.pin id hp).1,by
        rw[List.all_eq_true]at hio;obtain⟨p,hp1,rfl⟩:=List.mem_map.1 hp;exact bO.2 (by simpa using hio p hp1)⟩,lrc:=hr.lrc,rnd:=hr.rnd }
   cases e with
   |normal=>exact fin hk
   |ret=>exact fin hk
   |_=>exact hk.elim
theorem aM{T : Tab}(hT : fB P T){f : FuncId}{fn : Func}(c : Code)(nt : Nat)(rs : List ResultVar)(hf : P.funcs[f]? =some fn)(hb : fn.body=some c)(hname : (fn.name== "runtime.NumGoroutine")=false)(hnt : fn.ntmps=nt)(hrs : fn.results.toList=rs)
  {args:List AV} {ins outs:Xc} {r:AV} (hlen:args.length<=nt)
  (hcl:(ins.all λp=>p.2.live)=true/\nmL (ins.map (·.1)) args=true/\nmV (outs.map (·.1)) r=true/\(∀p∈ins,obCl (ins.map (·.1)) p.2)/\(∀p∈outs,obCl (outs.map (·.1)) p.2)/\(ins.all λp=>(outs.map (·.1)).elem p.1)=true)
  (h:∀(w0:World0) (Im0:Nat->Prop) (ρ0:Loc),GoodS P ⟨w0,Im0,ins.map (·.1),ρ0,nt⟩ c ⟨kA 0 args,aS ins⟩ (Fin T ⟨w0,Im0,ins.map (·.1),ρ0,nt⟩ rs r outs)) :
  CallSpec P f args ins r outs:=by
 subst hnt;subst hrs;exact tP hT hf hb hname hlen hcl h
end
theorem j3(n:Nat)(v:AV)(r:List (Nat×AV))(k:Nat):luS ((n,v)::r) k=if k=n then some v else luS r k:=by
 show(bif Nat.beq k n then _ else _)=_;rw[aG]
theorem gg(n:Nat)(v:Option LObj)(r:Xb)(k:Nat):luB ((n,v)::r) k=if k=n then v else luB r k:=by
 show(bif Nat.beq k n then _ else _)=_;rw[aG]
mutual
def frzV(id:Nat)(ob:LObj):AV->AV
 |.osl i n=>bif Nat.beq i id then(match ob with |.arr _ sz get _=>.isl n sz get|_=>.junk)else .osl i n
 |.osub i off n sz=>bif Nat.beq i id then(match ob with |.arr _ _ get _=>.isl n sz (λk=>get (off+k))|_=>.junk)else .osub i off n sz
 |.lptr i off=>bif Nat.beq i id then(match ob with |.box cs=>.ibox cs off|_=>.junk)else .lptr i off
 |.optr i sz a j=>bif Nat.beq i id then(match ob with |.arr m sz' get _=>.eptr m sz' get a j|_=>.junk)else .optr i sz a j
 |.mref i=>bif Nat.beq i id then .junk else .mref i
 |.yld i=>bif Nat.beq i id then .junk else .yld i
 |.fn g cs=>.fn g (frzL id ob cs)
 |.agg cs=>.agg (frzL id ob cs)
 |.tup cs=>.tup (frzL id ob cs)
 |v=>v
def frzL(id:Nat)(ob:LObj):List AV->List AV
 |[]=>[]
 |c::cs=>frzV id ob c::frzL id ob cs
end
mutual
def frzC(id:Nat)(ob:LObj):AV->Prop
 |.osl i n=>match Nat.beq i id,ob with |true,.arr m _ _ _=>n<=m|_,_=>True
 |.osub i off n sz=>match Nat.beq i id,ob with |true,.arr m sz' _ _=>n≠0/\off+n<=m/\sz'=sz|_,_=>True
 |.optr i sz a _=>match Nat.beq i id,ob with |true,.arr m sz' _ _=>a<m/\sz'=sz|_,_=>True
 |.fn _ cs=>frzCL id ob cs
 |.agg cs=>frzCL id ob cs
 |.tup cs=>frzCL id ob cs
 |_=>True
def frzCL(id:Nat)(ob:LObj):List AV->Prop
 |[]=>True
 |c::cs=>frzC id ob c/\frzCL id ob cs
end
theorem de(id:Nat)(ob:LObj):∀cs:List AV,(frzL id ob cs).length=cs.length
 |[]=>rfl
 |c::cs=>by simp[frzL,de id ob cs]
theorem ic(id:Nat)(ob:LObj):∀(cs:List AV) (i:Nat),(frzL id ob cs)[i]? =(cs[i]?).map (frzV id ob)
 |[],i=>by simp[frzL]
 |c::cs,0=>by simp[frzL]
 |c::cs,i+1=>by simp[frzL,ic id ob cs i]
theorem nJ{id:Nat}{ob:LObj}:∀{cs:List AV},frzCL id ob cs->∀c∈cs,frzC id ob c
 |[],_,c,hc=>by simp at hc
 |d::ds,h,c,hc=>by
  rcases List.mem_cons.1 hc with rfl|hc
  ·exact h.1
  ·exact nJ h.2 c hc
section
variable {ρ:Loc} {Im:Nat->Prop} {H:Heap}
mutual
theorem nK:∀(v:AV) (x:Value),nmV [] v=true->Con ρ Im H v x->ConI Im H v x
 |.lptr id off,x,hn,_=>by simp[nmV]at hn
 |.osl id n,x,hn,_=>by simp[nmV]at hn
 |.osub id off n sz,x,hn,_=>by simp[nmV]at hn
 |.optr id sz i j,x,hn,_=>by simp[nmV]at hn
 |.mref id,x,hn,_=>by simp[nmV]at hn
 |.yld id,x,hn,_=>by simp[nmV]at hn
 |.fn g cs,x,hn,h=>by
  simp only[nmV]at hn;cases h with
  |imm _ _ hi=>exact hi
  |fn _ _ xs hl hc=>exact .fn g cs xs hl (cons_imm cs xs hn hl hc)
 |.agg cs,x,hn,h=>by
  simp only[nmV]at hn;obtain⟨xs,rfl,hl,hc⟩:=h.agg_inv;exact .agg cs xs hl (cons_imm cs xs hn hl hc)
 |.tup cs,x,hn,h=>by
  simp only[nmV]at hn;obtain⟨xs,rfl,hl,hc⟩:=h.tup_inv;exact .tup cs xs hl (cons_imm cs xs hn hl hc)
 |.int k n,x,_,h=>by cases h with |imm _ _ hi=>exact hi
 |.bool b,x,_,h=>by cases h with |imm _ _ hi=>exact hi
 |.str s,x,_,h=>by cases h with |imm _ _ hi=>exact hi
 |.junk,x,_,h=>.junk x
 |.isl n sz g,x,_,h=>by cases h with |imm _ _ hi=>exact hi
 |.icap n sz g,x,_,h=>by cases h with |imm _ _ hi=>exact hi
 |.eptr n sz g i j,x,_,h=>by cases h with |imm _ _ hi=>exact hi
 |.ibox cs off,x,_,h=>by cases h with |imm _ _ hi=>exact hi
 |.nils,x,_,h=>by cases h with |imm _ _ hi=>exact hi
 |.emp,x,_,h=>by cases h with |imm _ _ hi=>exact hi
 |.niface,x,_,h=>by cases h with |imm _ _ hi=>exact hi
 |.nfunc,x,_,h=>by cases h with |imm _ _ hi=>exact hi
 |.nptr,x,_,h=>by cases h with |imm _ _ hi=>exact hi
 |.nmap,x,_,h=>by cases h with |imm _ _ hi=>exact hi
 |.iface t v,x,_,h=>by cases h with |imm _ _ hi=>exact hi
theorem cons_imm:∀(cs:List AV) (xs:Array Value),nmL [] cs=true->xs.size=cs.length->(∀(i:Nat) (c:AV) (x:Value),cs[i]? =some c->xs[i]? =some x->Con ρ Im H c x)->
  ∀(i:Nat) (c:AV) (x:Value),cs[i]? =some c->xs[i]? =some x->ConI Im H c x
 |[],_,_,_,_,i,c,x,h,_=>by simp at h
 |d::ds,xs,hn,hl,hc,0,c,x,h,hx=>by
  simp only[nmL,Bool.and_eq_true]at hn;simp at h;subst h;exact nK d x hn.1 (hc 0 d x η hx)
 |d::ds,xs,hn,hl,hc,i+1,c,x,h,hx=>by
  simp only[nmL,Bool.and_eq_true]at hn;refine cons_imm ds (xs.extract 1 xs.size) hn.2 (by simp at hl⊢;omega) (λj c' x' h1 h2=>hc (j+1) c' x' (by simpa using h1) ?_) i c x (by simpa using h) ?_
  ·simp only[Array.getElem?_extract]at h2;split at h2
   ·rw[Nat.add_comm];exact h2
   ·cases h2
  ·simp only[Array.getElem?_extract];have:i+1<xs.size:=(Array.getElem?_eq_some_iff.1 hx).1;rw[if_pos ω,Nat.add_comm];exact hx
end
def imOf(ob:LObj):Prop:=match ob with
 |.box cs=>nmL [] cs=true
 |.arr n _ get _=>∀i,i<n->nmL [] (get i)=true
 |_=>False
mutual
theorem iS{id:Nat}{ob:LObj}(ho:ObjCon ρ Im H id ob)(him:imOf ob):∀(v:AV) (x:Value),frzC id ob v->Con ρ Im H v x->Con ρ (λb=>Im b\/(ρ id).1=some b) H (frzV id ob v) x
 |.lptr i off,x,_,h=>by
  cases h with
  |imm _ _ hi=>cases hi
  |lptr _ _ b hb=>
   simp only[frzV,aG];split
   ·rename_i hid;subst hid;cases ho with
    |box cells b' xs T hρ hh hc=>
     rw[hb]at hρ;cases hρ;refine .imm _ _ (.ibox cells off b xs T (0,0) (.inr hb) hh hc.1 λj c x h1 h2=>?_);exact(nK c x (dd him c (List.mem_of_getElem? h1)) (hc.2 j c x h1 h2)).mono (λb hb=>.inl hb) λb _=>rfl
    |_=>exact .imm _ _ (.junk _)
   ·exact .lptr i off b hb
 |.osl i n,x,hcc,h=>by
  cases h with
  |imm _ _ hi=>cases hi
  |osl _ _ h1 h2 h3=>
   simp only[frzV,aG];split
   ·rename_i hid;subst hid;simp only[frzC,Nat.beq_refl]at hcc;cases ho with
    |arr0 sz get T hρ=>
     simp only at hcc⊢;have:n=0:=ω;subst this;rw[hρ];exact .imm _ _ (.isl0 sz get _)
    |arr m sz get T b xs hρ hh hn hcap hxs hbd hsz hc=>
     simp only at hcc⊢;have e0:((ρ i).1.map λb=>(⟨b,0,none⟩:Addr))=some ⟨b,0,none⟩:=by rw[hρ];rfl
     rw[e0];have hle:n*sz<=(ρ i).2*sz:=Nat.mul_le_mul_right _ h3;refine .imm _ _ (.isl n sz get b 0 _ xs T (0,0) (.inr hρ) hh (λj hj=>hsz j ω) h3 (r8 h1) ω λj q c x hj h4 h5=>?_);exact(nK c x (dd (him j ω) c (List.mem_of_getElem? h4)) (hc j q c x ω h4 (by simpa using h5))).mono (λb hb=>.inl hb) λb _=>rfl
    |_=>exact .imm _ _ (.junk _)
   ·exact .osl i n h1 h2 h3
 |.osub i off n sz,x,hcc,h=>by
  cases h with
  |imm _ _ hi=>cases hi
  |osub _ _ _ _ cap p h1 h2 h3=>
   simp only[frzV,aG];split
   ·rename_i hid;subst hid;simp only[frzC,Nat.beq_refl]at hcc;cases ho with
    |arr0 sz' get T hρ=>simp only at hcc;omega
    |arr m sz' get T b' xs hρ hh hn hcap hxs hbd hsz hc=>
     simp only at hcc⊢;obtain⟨hn0,hlt,rfl⟩:=hcc;obtain⟨b,hb,rfl⟩:=h2 hn0;rw[hb]at hρ;cases hρ;have hle:(off+n)*sz'<=(ρ i).2*sz':=Nat.mul_le_mul_right _ ω;rw[Nat.add_mul]at hle;refine .imm _ _ (.isl n sz' (λk=>get (off+k)) b' (off*sz') _ xs T (0,0) (.inr hb) hh (λj hj=>hsz _ ω) h3 (r8 h1) ω λj q c x hj h4 h5=>?_);refine(nK c x (dd (him (off+j) ω) c (List.mem_of_getElem? h4)) (hc (off+j) q c x ω h4 ?_)).mono (λb hb=>.inl hb) λb _=>rfl;rw[<-h5];congr 1;rw[Nat.add_mul]
    |_=>exact .imm _ _ (.junk _)
   ·exact .osub i off n sz cap p h1 h2 h3
 |.optr i sz a j,x,hcc,h=>by
  cases h with
  |imm _ _ hi=>cases hi
  |optr _ _ _ _ b hb=>
   simp only[frzV,aG];split
   ·rename_i hid;subst hid;simp only[frzC,Nat.beq_refl]at hcc;cases ho with
    |arr0 sz' get T hρ=>rw[hρ]at hb;cases hb
    |arr m sz' get T b' xs hρ hh hn hcap hxs hbd hsz hc=>
     simp only at hcc⊢;obtain⟨hlt,rfl⟩:=hcc;rw[hb]at hρ;cases hρ;have hle:m*sz'<=(ρ i).2*sz':=Nat.mul_le_mul_right _ hn;have:=ConI.eptr (Im:=fun b=>Im b \/ (ρ i).1 = some b) (H:=H) m sz' get a j b 0 xs T (0,0) (.inr hb) hh (fun q hq=>hsz q hq) ω (fun q p c x hq h4 h5=>
      (nK c x (dd (him q hq) c (List.mem_of_getElem? h4)) (hc q p c x hq h4 (by simpa using h5))).mono (λb hb=>.inl hb) λb _=>rfl) hlt
     rw[Nat.zero_add]at this;exact .imm _ _ this
    |_=>exact .imm _ _ (.junk _)
   ·exact .optr i sz a j b hb
 |.mref i,x,_,h=>by
  simp only[frzV,aG];split
  ·exact .imm _ _ (.junk _)
  ·cases h with
   |imm _ _ hi=>cases hi
   |mref _ b hb=>exact .mref i b hb
 |.yld i,x,_,h=>by
  simp only[frzV,aG];split
  ·exact .imm _ _ (.junk _)
  ·cases h with
   |imm _ _ hi=>cases hi
   |yld _ b hb=>exact .yld i b hb
 |.fn g cs,x,hcc,h=>by
  simp only[frzV];have:∃xs,x=.func (.func g) #[] xs/\Cons ρ Im H cs xs:=by
   cases h with
   |imm _ _ hi=>
    cases hi with
    |fn _ _ xs hl hc=>exact⟨xs,rfl,hl,λi c x h1 h2=>.imm _ _ (hc i c x h1 h2)⟩
   |fn _ _ xs hl hc=>exact⟨xs,rfl,hl,hc⟩
  obtain⟨xs,rfl,hl,hc⟩:=this;exact .fn g _ xs (by rw[hl,de]) (frz_cons ho him cs xs hcc hl hc)
 |.agg cs,x,hcc,h=>by
  simp only[frzV];obtain⟨xs,rfl,hl,hc⟩:=h.agg_inv;exact .agg _ xs (by rw[hl,de]) (frz_cons ho him cs xs hcc hl hc)
 |.tup cs,x,hcc,h=>by
  simp only[frzV];obtain⟨xs,rfl,hl,hc⟩:=h.tup_inv;exact .tup _ xs (by rw[hl,de]) (frz_cons ho him cs xs hcc hl hc)
 |.int k n,x,_,h=>h.mono (λb hb=>.inl hb) λb _=>rfl
 |.bool b,x,_,h=>h.mono (λb hb=>.inl hb) λb _=>rfl
 |.str s,x,_,h=>h.mono (λb hb=>.inl hb) λb _=>rfl
 |.junk,x,_,h=>.imm _ _ (.junk x)
 |.isl n sz g,x,_,h=>h.mono (λb hb=>.inl hb) λb _=>rfl
 |.icap n sz g,x,_,h=>h.mono (λb hb=>.inl hb) λb _=>rfl
 |.eptr n sz g i j,x,_,h=>h.mono (λb hb=>.inl hb) λb _=>rfl
 |.ibox cs off,x,_,h=>h.mono (λb hb=>.inl hb) λb _=>rfl
 |.nils,x,_,h=>h.mono (λb hb=>.inl hb) λb _=>rfl
 |.emp,x,_,h=>h.mono (λb hb=>.inl hb) λb _=>rfl
 |.niface,x,_,h=>h.mono (λb hb=>.inl hb) λb _=>rfl
 |.nfunc,x,_,h=>h.mono (λb hb=>.inl hb) λb _=>rfl
 |.nptr,x,_,h=>h.mono (λb hb=>.inl hb) λb _=>rfl
 |.nmap,x,_,h=>h.mono (λb hb=>.inl hb) λb _=>rfl
 |.iface t v,x,_,h=>h.mono (λb hb=>.inl hb) λb _=>rfl
theorem frz_cons{id:Nat}{ob:LObj}(ho:ObjCon ρ Im H id ob)(him:imOf ob):∀(cs:List AV) (xs:Array Value),frzCL id ob cs->xs.size=cs.length->(∀(i:Nat) (c:AV) (x:Value),cs[i]? =some c->xs[i]? =some x->Con ρ Im H c x)->
  ∀(i:Nat) (c:AV) (x:Value),(frzL id ob cs)[i]? =some c->xs[i]? =some x->Con ρ (λb=>Im b\/(ρ id).1=some b) H c x
 |[],_,_,_,_,i,c,x,h,_=>by simp[frzL]at h
 |d::ds,xs,hcc,hl,hc,0,c,x,h,hx=>by
  simp[frzL]at h;subst h;exact iS ho him d x hcc.1 (hc 0 d x η hx)
 |d::ds,xs,hcc,hl,hc,i+1,c,x,h,hx=>by
  refine frz_cons ho him ds (xs.extract 1 xs.size) hcc.2 (by simp at hl⊢;omega) (λj c' x' h1 h2=>hc (j+1) c' x' (by simpa using h1) ?_) i c x (by simpa[frzL]using h) ?_
  ·simp only[Array.getElem?_extract]at h2;split at h2
   ·rw[Nat.add_comm];exact h2
   ·cases h2
  ·simp only[Array.getElem?_extract];have:i+1<xs.size:=(Array.getElem?_eq_some_iff.1 hx).1;rw[if_pos ω,Nat.add_comm];exact hx
end
end
theorem gN{id:Nat}{ob:LObj}(him:imOf ob):∀{v:AV} {i:Nat},Names i (frzV id ob v)->Names i v/\i≠id:=by
 intro v i h;generalize hu:frzV id ob v=u at h;induction h generalizing v with
 |lptr off=>
  cases v<;>simp only[frzV,aG]at hu<;>first|(split at hu<;>first|(cases ob<;>simp at hu;done)|(simp at hu;done)|skip)|(simp at hu;done)|skip
  all_goals(simp only[AV.lptr.injEq]at hu;obtain⟨rfl,rfl⟩:=hu;exact⟨.lptr _,by assumption⟩)
 |osl n=>
  cases v<;>simp only[frzV,aG]at hu<;>first|(split at hu<;>first|(cases ob<;>simp at hu;done)|(simp at hu;done)|skip)|(simp at hu;done)|skip
  all_goals(simp only[AV.osl.injEq]at hu;obtain⟨rfl,rfl⟩:=hu;exact⟨.osl _,by assumption⟩)
 |osub off n sz=>
  cases v<;>simp only[frzV,aG]at hu<;>first|(split at hu<;>first|(cases ob<;>simp at hu;done)|(simp at hu;done)|skip)|(simp at hu;done)|skip
  all_goals(simp only[AV.osub.injEq]at hu;obtain⟨rfl,rfl,rfl,rfl⟩:=hu;exact⟨.osub _ _ _,by assumption⟩)
 |optr sz a j=>
  cases v<;>simp only[frzV,aG]at hu<;>first|(split at hu<;>first|(cases ob<;>simp at hu;done)|(simp at hu;done)|skip)|(simp at hu;done)|skip
  all_goals(simp only[AV.optr.injEq]at hu;obtain⟨rfl,rfl,rfl,rfl⟩:=hu;exact⟨.optr _ _ _,by assumption⟩)
 |mref=>
  cases v<;>simp only[frzV,aG]at hu<;>first|(split at hu<;>first|(cases ob<;>simp at hu;done)|(simp at hu;done)|skip)|(simp at hu;done)|skip
  all_goals(simp only[AV.mref.injEq]at hu;subst hu;exact⟨.mref,by assumption⟩)
 |yld=>
  cases v<;>simp only[frzV,aG]at hu<;>first|(split at hu<;>first|(cases ob<;>simp at hu;done)|(simp at hu;done)|skip)|(simp at hu;done)|skip
  all_goals(simp only[AV.yld.injEq]at hu;subst hu;exact⟨.yld,by assumption⟩)
 |fn f caps c hm _ ih=>
  cases v<;>simp only[frzV,aG]at hu<;>first|(split at hu<;>first|(cases ob<;>simp at hu;done)|(simp at hu;done)|skip)|(simp at hu;done)|skip
  all_goals
   simp only[AV.fn.injEq]at hu;obtain⟨rfl,rfl⟩:=hu;obtain⟨j,hj⟩:=List.mem_iff_getElem?.1 hm;rw[ic]at hj;obtain⟨d,hd,rfl⟩:=Option.map_eq_some_iff.1 hj;obtain⟨h1,h2⟩:=ih rfl;exact⟨.fn _ _ d (List.mem_of_getElem? hd) h1,h2⟩
 |agg cs c hm _ ih=>
  cases v<;>simp only[frzV,aG]at hu<;>first|(split at hu<;>first|(cases ob<;>simp at hu;done)|(simp at hu;done)|skip)|(simp at hu;done)|skip
  all_goals
   simp only[AV.agg.injEq]at hu;subst hu;obtain⟨j,hj⟩:=List.mem_iff_getElem?.1 hm;rw[ic]at hj;obtain⟨d,hd,rfl⟩:=Option.map_eq_some_iff.1 hj;obtain⟨h1,h2⟩:=ih rfl;exact⟨.agg _ d (List.mem_of_getElem? hd) h1,h2⟩
 |tup cs c hm _ ih=>
  cases v<;>simp only[frzV,aG]at hu<;>first|(split at hu<;>first|(cases ob<;>simp at hu;done)|(simp at hu;done)|skip)|(simp at hu;done)|skip
  all_goals
   simp only[AV.tup.injEq]at hu;subst hu;obtain⟨j,hj⟩:=List.mem_iff_getElem?.1 hm;rw[ic]at hj;obtain⟨d,hd,rfl⟩:=Option.map_eq_some_iff.1 hj;obtain⟨h1,h2⟩:=ih rfl;exact⟨.tup _ d (List.mem_of_getElem? hd) h1,h2⟩
def frzO(id:Nat)(ob:LObj):LObj->LObj
 |.box cs=>.box (frzL id ob cs)
 |.arr n sz get T=>.arr n sz (λi=>frzL id ob (get i)) T
 |.map kvs=>.map (kvs.map λp=>(frzV id ob p.1,frzV id ob p.2))
 |.lrec st pe ks cs ps assign body nt=>.lrec st pe ks (frzL id ob cs) ps assign body nt
 |.dead=>.dead
def GB(id:Nat)(ob:LObj):LObj->Prop
 |.box cs=>frzCL id ob cs
 |.arr n _ get _=>∀i,i<n->frzCL id ob (get i)
 |.map kvs=>∀k v,(k,v)∈kvs->frzC id ob k/\frzC id ob v
 |.lrec _ _ _ cs _ _ _ _=>frzCL id ob cs
 |.dead=>True
theorem tQ(id:Nat)(ob u:LObj):(frzO id ob u).live=u.live:=by cases u<;>rfl
theorem Ek{ρ:Loc}{Im:Nat->Prop}{H:Heap}{id:Nat}{ob:LObj}(ho:ObjCon ρ Im H id ob)(him:imOf ob){j:Nat}{u:LObj}(hc:GB id ob u)(h:ObjCon ρ Im H j u):ObjCon ρ (λb=>Im b\/(ρ id).1=some b) H j (frzO id ob u):=by
 cases h with
 |dead=>exact .dead
 |box cells b xs T h1 h2 h3=>exact .box _ b xs T h1 h2 ⟨by rw[h3.1,de],frz_cons ho him cells xs hc h3.1 h3.2⟩
 |arr0 sz get T h1=>exact .arr0 sz _ T h1
 |arr n sz get T b xs h1 h2 h3 h4 h5 h6 h7 h8=>
  refine .arr n sz _ T b xs h1 h2 h3 h4 h5 h6 (λi hi=>by rw[de];exact h7 i hi) λi q c x hi h9 h10=>?_;rw[ic]at h9;obtain⟨d,hd,rfl⟩:=Option.map_eq_some_iff.1 h9;exact iS ho him d x (nJ (hc i hi) d (List.mem_of_getElem? hd)) (h8 i q d x hi hd h10)
 |map kvs b es clock h1 h2 h3 h4=>
  refine .map _ b es clock h1 h2 (by rw[h3];simp) λi k v e h5 h6=>?_;simp only[List.getElem?_map]at h5;obtain⟨p,hp,he⟩:=Option.map_eq_some_iff.1 h5;simp only[Prod.mk.injEq]at he;obtain⟨rfl,rfl⟩:=he;have hm:=hc p.1 p.2 (List.mem_of_getElem? hp);have:=h4 i p.1 p.2 e hp h6;exact⟨iS ho him _ _ hm.1 this.1,iS ho him _ _ hm.2 this.2⟩
 |lrec st pe ks cs ps assign body nt b r h1 h2 h3 h4=>
  refine .lrec st pe ks _ ps assign body nt b r h1 h2 { h3 with len:=by rw[h3.len,de] } λi k c h5 h6=>?_;rw[ic]at h6;obtain⟨d,hd,rfl⟩:=Option.map_eq_some_iff.1 h6;obtain⟨x,hx,hcx⟩:=h4 i k d h5 hd;exact⟨x,hx,iS ho him d x (nJ hc d (List.mem_of_getElem? hd)) hcx⟩
theorem zB{id:Nat}{ob:LObj}(him:imOf ob){u:LObj}{i:Nat}(h:NamesO i (frzO id ob u)):NamesO i u/\i≠id:=by
 have mem:∀{cs:List AV} {c:AV},c∈frzL id ob cs->∃d∈cs,c=frzV id ob d:=by
  intro cs c hm;obtain⟨j,hj⟩:=List.mem_iff_getElem?.1 hm;rw[ic]at hj;obtain⟨d,hd,rfl⟩:=Option.map_eq_some_iff.1 hj;exact⟨d,List.mem_of_getElem? hd,rfl⟩
 cases u with
 |dead=>cases h
 |box cs=>
  cases h with
  |box _ c hm hn=>
   obtain⟨d,hd,rfl⟩:=mem hm;obtain⟨h1,h2⟩:=gN him hn;exact⟨.box _ d hd h1,h2⟩
 |arr n sz get T=>
  cases h with
  |arr _ _ _ _ j c hj hm hn=>
   obtain⟨d,hd,rfl⟩:=mem hm;obtain⟨h1,h2⟩:=gN him hn;exact⟨.arr _ _ _ _ j d hj hd h1,h2⟩
 |map kvs=>
  cases h with
  |mapK _ k v hm hn=>
   obtain⟨p,hp,he⟩:=List.mem_map.1 hm;simp only[Prod.mk.injEq]at he;obtain⟨rfl,rfl⟩:=he;obtain⟨h1,h2⟩:=gN him hn;exact⟨.mapK _ p.1 p.2 hp h1,h2⟩
  |mapV _ k v hm hn=>
   obtain⟨p,hp,he⟩:=List.mem_map.1 hm;simp only[Prod.mk.injEq]at he;obtain⟨rfl,rfl⟩:=he;obtain⟨h1,h2⟩:=gN him hn;exact⟨.mapV _ p.1 p.2 hp h1,h2⟩
 |lrec st pe ks cs ps assign body nt=>
  cases h with
  |lrec _ _ _ _ _ _ _ _ c hm hn=>
   obtain⟨d,hd,rfl⟩:=mem hm;obtain⟨h1,h2⟩:=gN him hn;exact⟨.lrec _ _ _ _ _ _ _ _ d hd h1,h2⟩
def frzE(id:Nat)(ob:LObj):List (Nat×AV)->List (Nat×AV)
 |[]=>[]
 |(k,v)::r=>(k,frzV id ob v)::frzE id ob r
def we(id:Nat)(ob:LObj):Xb->Xb
 |[]=>[]
 |(j,u)::r=>(j,bif Nat.beq j id then none else(match u with |some u=>some (frzO id ob u)|none=>none))::we id ob r
def rK(id:Nat)(ob:LObj):List (Nat×AV)->Prop
 |[]=>True
 |(_,v)::r=>frzC id ob v/\rK id ob r
def jM(id:Nat)(ob:LObj):Xb->Prop
 |[]=>True
 |(_,some u)::r=>GB id ob u/\jM id ob r
 |(_,none)::r=>jM id ob r
theorem rL{id:Nat}{ob:LObj}:∀{l:List (Nat×AV)} {k:Nat} {v:AV},luS (frzE id ob l) k=some v->∃u,luS l k=some u/\v=frzV id ob u
 |[],k,v,h=>by simp[frzE,luS]at h
 |(k0,u0)::r,k,v,h=>by
  simp only[frzE,luS,aG]at h⊢;split at h
  ·rename_i hk;rw[if_pos hk];simp only[Option.some.injEq]at h;exact⟨u0,rfl,h.symm⟩
  ·rename_i hk;rw[if_neg hk];exact rL h
theorem tR{id:Nat}{ob:LObj}:∀{l:List (Nat×AV)} {k:Nat} {u:AV},rK id ob l->luS l k=some u->frzC id ob u
 |[],k,u,_,h=>by simp[luS]at h
 |(k0,u0)::r,k,u,hc,h=>by
  simp only[luS,aG]at h;split at h
  ·simp only[Option.some.injEq]at h;subst h;exact hc.1
  ·exact tR hc.2 h
theorem nL{id:Nat}{ob:LObj}:∀{l:Xb} {j:Nat},luB (we id ob l) j=if j=id then none else(luB l j).map (frzO id ob)
 |[],j=>by simp[we,luB]
 |(j0,u0)::r,j=>by
  simp only[we,luB,aG];by_cases hj:j=j0
  ·subst hj;simp only[if_true];split
   ·rfl
   ·cases u0<;>rfl
  ·simp only[hj,if_false];exact nL
theorem lO{id:Nat}{ob:LObj}:∀{l:Xb} {j:Nat} {u:LObj},jM id ob l->luB l j=some u->GB id ob u
 |[],j,u,_,h=>by simp[luB]at h
 |(j0,some u0)::r,j,u,hc,h=>by
  simp only[luB,aG]at h;split at h
  ·simp only[Option.some.injEq]at h;subst h;exact hc.1
  ·exact lO hc.2 h
 |(j0,none)::r,j,u,hc,h=>by
  simp only[luB,aG]at h;split at h
  ·cases h
  ·exact lO (l:=r) hc h
def St.frz(A:St)(id:Nat)(ob:LObj):St:=⟨frzE id ob A.env,we id ob A.objs⟩
theorem nM{X:Frm}{A:St}(id:Nat){ob:LObj}(hob:luB A.objs id=some ob)(hp:X.pid.elem id=false)(him:imOf ob)(hc:rK id ob A.env)(hoc:jM id ob A.objs):Ghost X A (A.frz id ob):=by
 refine⟨?_⟩;rintro a w ⟨ρ,Im,hr⟩;have hoo:=hr.objs id ob hob;have hlive:ob.live=true:=by cases ob<;>first|rfl|exact him.elim
 have hO:∀j u,(A.frz id ob).o j=some u->j≠id/\∃u0,A.o j=some u0/\u=frzO id ob u0:=by
  intro j u h;have h:luB (we id ob A.objs) j=some u:=h;rw[nL]at h;split at h
  ·cases h
  ·rename_i hj;obtain⟨u0,h1,h2⟩:=Option.map_eq_some_iff.1 h;exact⟨hj,u0,h1,h2.symm⟩
 have hal:∀j,A.o j≠none->j≠id->(A.frz id ob).o j≠none:=by
  intro j h hj;show luB (we id ob A.objs) j≠none;rw[nL,if_neg hj];obtain⟨u,hu⟩:=Option.ne_none_iff_exists'.1 h;rw[show luB A.objs j=some u from hu];simp
 refine ⟨ρ,fun b=>Im b\/(ρ id).1=some b,
  {objs:=fun j u hj=>?_,own:=fun j u b hj hl hb=>?_,inj:=fun j j' u u' b h1 h2 h3 h4 h5 h6=>?_,ocl:=fun j u hj i hi=>?_,imlt:=fun b hb=>?_,im0:=fun b hb=>.inl (hr.im0 b hb),imf:=fun b hb=>?_,
   os:=hr.os,tape:=hr.tape,output:=hr.output,size:=hr.size,frame:=hr.frame,pin:=λj hj=>?_,slots:=λk v hv=>?_,scl:=λk v hv i hi=>?_,nt:=hr.nt,lrc:=hr.lrc,rnd:=hr.rnd,
   defers:=hr.defers.mono (λ_ _=>rfl) λD hD hn hi=>hi.elim hn λhe=>(hoo.noSys hlive he).1 _ hD }⟩
 ·obtain⟨_,u0,h0,rfl⟩:=hO j u hj;exact Ek hoo him (lO hoc h0) (hr.objs j u0 h0)
 ·obtain⟨hne,u0,h0,rfl⟩:=hO j u hj;rw[tQ]at hl;obtain⟨h1,h2,h3⟩:=hr.own j u0 b h0 hl hb;exact⟨λhi=>hi.elim h1 λhe=>hne (hr.inj j id u0 ob b h0 hl hob hlive hb he),h2,h3⟩
 ·obtain⟨_,u0,h0,rfl⟩:=hO j u h1;obtain⟨_,u0',h0',rfl⟩:=hO j' u' h3;rw[tQ]at h2 h4;exact hr.inj j j' u0 u0' b h0 h2 h0' h4 h5 h6
 ·obtain⟨_,u0,h0,rfl⟩:=hO j u hj;obtain⟨h1,h2⟩:=zB him hi;exact hal i (hr.ocl j u0 h0 i h1) h2
 ·rcases hb with hb|hb
  ·exact hr.imlt b hb
  ·exact(hr.own id ob b hob hlive hb).2.1
 ·rcases hb with hb|hb
  ·exact hr.imf b hb
  ·rcases(hr.own id ob b hob hlive hb).2.2 with h|h
   ·exact .inr (.inl h)
   ·rw[List.elem_eq_true_of_mem h]at hp;cases hp
 ·have hne:j≠id:=λe=>by subst e;rw[List.elem_eq_true_of_mem hj]at hp;cases hp
  obtain⟨h1,h2⟩:=hr.pin j hj;exact⟨h1,hal j h2 hne⟩
 ·obtain⟨u,hu,rfl⟩:=rL hv;obtain⟨x,hx,hcx⟩:=hr.slots k u hu;exact⟨x,hx,iS hoo him u x (tR hc hu) hcx⟩
 ·obtain⟨u,hu,rfl⟩:=rL hv;obtain⟨h1,h2⟩:=gN him hi;exact hal i (hr.scl k u hu i h1) h2
section
variable {P:Program} {X:Frm}
theorem j4{c:Code}{A:St}{K:Exit->St->Prop}(id:Nat){ob:LObj}(hob:luB A.objs id=some ob)(hp:X.pid.elem id=false)(him:imOf ob)(hc:rK id ob A.env)(hoc:jM id ob A.objs)
  (h:GoodS P X c (A.frz id ob) K):GoodS P X c A K:=gM (nM id hob hp him hc hoc) h
theorem dt{A:St}(k id sz T:Nat)(hk:luS A.env k=some .nils)(hid:luB A.objs id=none)(hp:X.pid.elem id=false):Ghost X A ⟨(k,.osl id 0)::A.env,(id,some (.arr 0 sz (λ_=>[]) T))::A.objs⟩:=by
 refine⟨?_⟩;rintro a w ⟨ρ,Im,hr⟩;have hne:∀j,A.o j≠none->j≠id:=λj h e=>h (by rw[e];exact hid);have hρ:∀j,A.o j≠none->(ρ.set id (none,0)) j=ρ j:=λj h=>Loc.set_ne _ _ (hne j h);have hO:∀j,luB ((id,some (.arr 0 sz (λ_=>[]) T))::A.objs) j=if j=id then some (.arr 0 sz (λ_=>[]) T)else A.o j:=by
  intro j;exact gg _ _ _ _
 have hal:∀j,A.o j≠none->luB ((id,some (.arr 0 sz (λ_=>[]) T))::A.objs) j≠none:=by
  intro j h;rw[hO,if_neg (hne j h)];exact h
 refine ⟨ρ.set id (none,0),Im,
  {objs:=fun j u hj=>?_,own:=fun j u b hj hl hb=>?_,inj:=fun j j' u u' b h1 h2 h3 h4 h5 h6=>?_,ocl:=fun j u hj i hi=>?_,imlt:=hr.imlt,im0:=hr.im0,imf:=hr.imf,
   os:=hr.os,tape:=hr.tape,output:=hr.output,size:=hr.size,frame:=hr.frame,pin:=λj hj=>?_,slots:=λq v hv=>?_,scl:=λq v hv i hi=>?_,defers:=hr.defers,nt:=hr.nt,lrc:=hr.lrc,rnd:=hr.rnd }⟩
 ·replace hj:luB ((id,some (.arr 0 sz (λ_=>[]) T))::A.objs) j=some u:=hj
  rw[hO]at hj;split at hj
  ·rename_i e;subst e;cases hj;exact .arr0 _ _ _ (Loc.set_same _ _ _)
  ·exact(hr.objs j u hj).move (λb hb=>hb) (λ_ _=>rfl) (λ_ _=>rfl) (hρ j (by rw[hj];simp)) λi hi=>hρ i (hr.ocl j u hj i hi)
 ·replace hj:luB ((id,some (.arr 0 sz (λ_=>[]) T))::A.objs) j=some u:=hj
  rw[hO]at hj;split at hj
  ·rename_i e;subst e;rw[Loc.set_same]at hb;cases hb
  ·rw[hρ j (by rw[hj];simp)]at hb;exact hr.own j u b hj hl hb
 ·replace h1:luB ((id,some (.arr 0 sz (λ_=>[]) T))::A.objs) j=some u:=h1
  replace h3:luB ((id,some (.arr 0 sz (λ_=>[]) T))::A.objs) j'=some u':=h3
  rw[hO]at h1 h3;split at h1
  ·rename_i e;subst e;rw[Loc.set_same]at h5;cases h5
  ·split at h3
   ·rename_i e;subst e;rw[Loc.set_same]at h6;cases h6
   ·rw[hρ j (by rw[h1];simp)]at h5;rw[hρ j' (by rw[h3];simp)]at h6;exact hr.inj j j' u u' b h1 h2 h3 h4 h5 h6
 ·replace hj:luB ((id,some (.arr 0 sz (λ_=>[]) T))::A.objs) j=some u:=hj
  rw[hO]at hj;split at hj
  ·simp only[Option.some.injEq]at hj;subst hj;cases hi with
   |arr _ _ _ _ _ _ hlt=>omega
  ·exact hal i (hr.ocl j u hj i hi)
 ·obtain⟨h1,h2⟩:=hr.pin j hj;exact⟨by rw[hρ j h2];exact h1,hal j h2⟩
 ·replace hv:luS ((k,.osl id 0)::A.env) q=some v:=hv
  rw[j3]at hv;split at hv
  ·rename_i e;subst e;cases hv;obtain⟨x,hx,hcx⟩:=hr.slots q _ hk;cases hcx.nils_inv;refine⟨_,hx,?_⟩;have:=Con.osl (ρ:=ρ.set id (none,0)) (Im:=Im) (H:=w.heap) id 0 (π _) (λh=>absurd rfl h) (π _);rw[Loc.set_same]at this;exact this
  ·obtain⟨x,hx,hcx⟩:=hr.slots q v hv;exact⟨x,hx,hcx.reloc λi hi=>hρ i (hr.scl q v hv i hi)⟩
 ·replace hv:luS ((k,.osl id 0)::A.env) q=some v:=hv
  rw[j3]at hv;split at hv
  ·simp only[Option.some.injEq]at hv;subst hv;cases hi;show luB ((id,some (.arr 0 sz (λ_=>[]) T))::A.objs) id≠none;rw[hO,if_pos rfl];simp
  ·exact hal i (hr.scl q v hv i hi)
theorem mZ{c:Code}{A:St}{K:Exit->St->Prop}(k id sz T:Nat)(hk:luS A.env k=some .nils)(hid:luB A.objs id=none)(hp:X.pid.elem id=false)
  (h:GoodS P X c ⟨(k,.osl id 0)::A.env,(id,some (.arr 0 sz (λ_=>[]) T))::A.objs⟩ K):GoodS P X c A K:=gM (dt k id sz T hk hid hp) h
end
theorem lP{X:Frm}{A:St}(bid ix id sz T:Nat){cs:List AV}(hb:luB A.objs bid=some (.box cs))(hk:cs[ix]? =some .nils)(hid:luB A.objs id=none)(hp:X.pid.elem id=false) :
  Ghost X A ⟨A.env,(bid,some (.box (cs.set ix (.osl id 0))))::(id,some (.arr 0 sz (λ_=>[]) T))::A.objs⟩:=by
 refine⟨?_⟩;rintro a w ⟨ρ,Im,hr⟩;have hbi:bid≠id:=λe=>by rw[e,hid]at hb;cases hb
 have hne:∀j,A.o j≠none->j≠id:=λj h e=>h (by rw[e];exact hid);have hρ:∀j,A.o j≠none->(ρ.set id (none,0)) j=ρ j:=λj h=>Loc.set_ne _ _ (hne j h);have hO:∀j,luB ((bid,some (.box (cs.set ix (.osl id 0))))::(id,some (.arr 0 sz (λ_=>[]) T))::A.objs) j=if j=bid then some (.box (cs.set ix (.osl id 0)))else if j=id then some (.arr 0 sz (λ_=>[]) T)else A.o j:=by
  intro j;rw[gg,gg];rfl
 have hbn:A.o bid≠none:=by show luB A.objs bid≠none;rw[hb];simp
 have hal:∀j,A.o j≠none->luB ((bid,some (.box (cs.set ix (.osl id 0))))::(id,some (.arr 0 sz (λ_=>[]) T))::A.objs) j≠none:=by
  intro j h;rw[hO];split
  ·simp
  ·rw[if_neg (hne j h)];exact h
 have hold:∀{j:Nat} {u:LObj},luB ((bid,some (.box (cs.set ix (.osl id 0))))::(id,some (.arr 0 sz (λ_=>[]) T))::A.objs) j=some u->(j=bid/\u=.box (cs.set ix (.osl id 0)))\/(j=id/\u=.arr 0 sz (λ_=>[]) T)\/(j≠bid/\j≠id/\A.o j=some u):=by
  intro j u h;rw[hO]at h;split at h
  ·rename_i e;cases h;exact .inl ⟨e,rfl⟩
  ·split at h
   ·rename_i e;cases h;exact .inr (.inl ⟨e,rfl⟩)
   ·rename_i e1 e2;exact .inr (.inr ⟨e1,e2,h⟩)
 have hbo:=hr.objs bid _ hb;have hlive:∀{j:Nat} {u:LObj},luB ((bid,some (.box (cs.set ix (.osl id 0))))::(id,some (.arr 0 sz (λ_=>[]) T))::A.objs) j=some u->u.live=true->∀b,((ρ.set id (none,0)) j).1=some b->∃u0,A.o j=some u0/\u0.live=true/\(ρ j).1=some b:=by
  intro j u h hl b hbb;rcases hold h with⟨rfl,rfl⟩|⟨rfl,rfl⟩|⟨_,h2,h3⟩
  ·rw[hρ _ hbn]at hbb;exact⟨_,hb,rfl,hbb⟩
  ·rw[Loc.set_same]at hbb;cases hbb
  ·rw[Loc.set_ne _ _ h2]at hbb;exact⟨u,h3,hl,hbb⟩
 have hnm:∀{i:Nat},NamesO i (.box (cs.set ix (.osl id 0)))->i=id\/NamesO i (.box cs):=by
  intro i hi;cases hi with
  |box _ c hm hn=>
   rcases List.mem_or_eq_of_mem_set hm with hm|rfl
   ·exact .inr (.box _ c hm hn)
   ·cases hn;exact .inl rfl
 have hidn:luB ((bid,some (.box (cs.set ix (.osl id 0))))::(id,some (.arr 0 sz (λ_=>[]) T))::A.objs) id≠none:=by
  rw[hO,if_neg (Ne.symm hbi),if_pos rfl];simp
 refine ⟨ρ.set id (none,0),Im,
  {objs:=fun j u hj=>?_,own:=fun j u b hj hl hbb=>?_,inj:=fun j j' u u' b h1 h2 h3 h4 h5 h6=>?_,ocl:=fun j u hj i hi=>?_,imlt:=hr.imlt,im0:=hr.im0,imf:=hr.imf,
   os:=hr.os,tape:=hr.tape,output:=hr.output,size:=hr.size,frame:=hr.frame,pin:=λj hj=>?_,slots:=λq v hv=>?_,scl:=λq v hv i hi=>?_,defers:=hr.defers,nt:=hr.nt,lrc:=hr.lrc,rnd:=hr.rnd }⟩
 ·rcases hold hj with⟨rfl,rfl⟩|⟨rfl,rfl⟩|⟨_,h2,h3⟩
  ·cases hbo with
   |box _ b xs e h1 h2 h3=>
    refine .box _ b xs e (by rw[hρ _ hbn];exact h1) h2 ⟨by rw[h3.1];simp,λi c x hc hx=>?_⟩;by_cases hi:ix=i
    ·subst hi;rw[List.getElem?_set_self (List.getElem?_eq_some_iff.1 hk).1]at hc;cases hc;have:=h3.2 ix _ x hk hx;cases this.nils_inv;have h4:=Con.osl (ρ:=ρ.set id (none,0)) (Im:=Im) (H:=w.heap) id 0 (π _) (λh=>absurd rfl h) (π _);rw[Loc.set_same]at h4;exact h4
    ·rw[List.getElem?_set_ne hi]at hc;exact(h3.2 i c x hc hx).reloc λk hk=>hρ k (hr.ocl _ _ hb k (.box _ c (List.mem_of_getElem? hc) hk))
  ·exact .arr0 _ _ _ (Loc.set_same _ _ _)
  ·exact(hr.objs j u h3).move (λb hb=>hb) (λ_ _=>rfl) (λ_ _=>rfl) (Loc.set_ne _ _ h2) λi hi=>hρ i (hr.ocl j u h3 i hi)
 ·obtain⟨u0,h1,h2,h3⟩:=hlive hj hl b hbb;exact hr.own j u0 b h1 h2 h3
 ·obtain⟨u0,g1,g2,g3⟩:=hlive h1 h2 b h5;obtain⟨u1,k1,k2,k3⟩:=hlive h3 h4 b h6;exact hr.inj j j' u0 u1 b g1 g2 k1 k2 g3 k3
 ·show luB _ i≠none;rcases hold hj with⟨rfl,rfl⟩|⟨rfl,rfl⟩|⟨_,h2,h3⟩
  ·rcases hnm hi with rfl|hi
   ·exact hidn
   ·exact hal i (hr.ocl _ _ hb i hi)
  ·cases hi with
   |arr _ _ _ _ _ _ hlt=>omega
  ·exact hal i (hr.ocl j u h3 i hi)
 ·obtain⟨h1,h2⟩:=hr.pin j hj;exact⟨by rw[hρ j h2];exact h1,hal j h2⟩
 ·obtain⟨x,hx,hcx⟩:=hr.slots q v hv;exact⟨x,hx,hcx.reloc λi hi=>hρ i (hr.scl q v hv i hi)⟩
 ·exact hal i (hr.scl q v hv i hi)
theorem fH{P:Program}{X:Frm}{c:Code}{A:St}{K:Exit->St->Prop}(bid ix id sz T:Nat){cs:List AV}(hb:luB A.objs bid=some (.box cs))(hk:cs[ix]? =some .nils)(hid:luB A.objs id=none)(hp:X.pid.elem id=false)
  (h:GoodS P X c ⟨A.env,(bid,some (.box (cs.set ix (.osl id 0))))::(id,some (.arr 0 sz (λ_=>[]) T))::A.objs⟩ K):GoodS P X c A K:=gM (lP bid ix id sz T hb hk hid hp) h
theorem cg(n:Nat)(v:LObj)(r:Xc)(k:Nat):luL ((n,v)::r) k=if k=n then some v else luL r k:=by
 show(bif Nat.beq k n then _ else _)=_;rw[aG]
theorem CallSpec.thawR{P:Program}{f:FuncId}{as1 as2:List AV}{ins outs:Xc}{r:AV}(id:Nat){m sz T:Nat}{get':Nat->List AV}(h:CallSpec P f as1 ins r outs)(him:∀i,i<m->nmL [] (get' i)=true)(hi1:luL ins id=none)(hi2:luL outs id=none)
  (hrel:∀(ρ:Loc) (Im:Nat->Prop) (H:Heap) (xs:Array Value),ObjCon ρ Im H id (.arr m sz get' T)->Cons ρ Im H as2 xs->Cons ρ (λb=>Im b\/(ρ id).1=some b) H as1 xs):CallSpec P f as2 ((id,.arr m sz get' T)::ins) r ((id,.dead)::outs):=by
 have hnin:id∉ins.map (·.1):=λhm=>bO.2 hm hi1;have hcons:∀{o:Xc} {v:LObj} {i:Nat},luL o i≠none->luL ((id,v)::o) i≠none:=by
  intro o v i hn;rw[cg];split
  ·simp
  ·exact hn
 have hnn:∀i,¬NamesO i (.arr m sz get' T):=by
  intro i hn;cases hn with
  |arr _ _ _ _ j c hj hm hn=>exact absurd (cC hn (dd (him j hj) c hm)) η
 have hself:∀(v:LObj) (o:Xc),luL ((id,v)::o) id≠none:=by
  intro v o;rw[cg,if_pos rfl];simp
 refine⟨h.enter,λj ob hj i hi=>?_,λj ob hj=>?_,λw ρ Im xs hmem hx=>?_⟩
 ·rw[cg]at hj;split at hj
  ·cases hj;exact absurd hi (hnn i)
  ·exact hcons (h.icl j ob hj i hi)
 ·rw[cg]at hj;split at hj
  ·cases hj;rfl
  ·exact h.live j ob hj
 ·have hob:luL ((id,.arr m sz get' T)::ins) id=some (.arr m sz get' T):=by rw[cg,if_pos rfl]
  have hin:∀{j:Nat} {u:LObj},luL ins j=some u->j≠id/\luL ((id,.arr m sz get' T)::ins) j=some u:=by
   intro j u hj;have hne:j≠id:=λe=>by rw[e,hi1]at hj;cases hj
   exact⟨hne,by rw[cg,if_neg hne];exact hj⟩
  have hoo:=hmem.objs id _ hob;have hm1:Mem (cB w (λb=>Im b\/(ρ id).1=some b) ins ρ 0) ρ (λb=>Im b\/(ρ id).1=some b) (luL ins) w :=
   {objs:=fun j u hj=>(hmem.objs j u (hin hj).2).move (fun b hb=>.inl hb) (fun _ _=>rfl) (fun _ _=>rfl) rfl (fun _ _=>rfl)
    own:=λj u b hj hl hb=>by
     obtain⟨h1,h2,h3⟩:=hmem.own j u b (hin hj).2 hl hb;refine⟨λhi=>hi.elim h1 λhe=>(hin hj).1 (hmem.inj j id u _ b (hin hj).2 hl hob rfl hb he),h2,.inr (bO.1 (by rw[hj];simp))⟩
    inj:=λj j' u u' b h1 h2 h3 h4 h5 h6=>hmem.inj j j' u u' b (hin h1).2 h2 (hin h3).2 h4 h5 h6
    ocl:=h.icl
    imlt:=λb hb=>hb.elim (hmem.imlt b) λhe=>(hmem.own id _ b hob rfl he).2.1
    im0:=λb hb=>hb,imf:=λb hb=>.inl hb
    os:=rfl,tape:=rfl,output:=rfl,size:=ξ _,frame:=λ_ _ _=>rfl,pin:=λj hj=>⟨rfl,bO.2 hj⟩,lrc:=λl r h=>⟨r.state,r.pending,h⟩,rnd:=λl h=>by cases h }
  have hx1:=hrel ρ Im w.heap xs hoo hx;refine(h.calls w ρ _ xs hm1 hx1).mono λe w'=>?_;rintro⟨y,ρ',Im',rfl,hc,hn,hm⟩;have hout:∀{i:Nat},luL outs i≠none->i≠id:=λhi e=>hi (by rw[e];exact hi2);have hρ:∀{i:Nat},i≠id->(if i=id then ρ id else ρ' i)=ρ' i:=λhi=>if_neg hi;have hin2:∀{j:Nat} {u:LObj},luL ((id,.dead)::outs) j=some u->(j=id/\u=.dead)\/(j≠id/\luL outs j=some u):=by
   intro j u hj;rw[cg]at hj;split at hj
   ·rename_i he;cases hj;exact .inl ⟨he,rfl⟩
   ·rename_i he;exact .inr ⟨he,hj⟩
  refine⟨y,λi=>if i=id then ρ id else ρ' i,Im',rfl,hc.reloc λi hi=>hρ (hout (hn i hi)),λi hi=>hcons (hn i hi),?_⟩;exact
   {objs:=fun j u hj=>by
     rcases hin2 hj with⟨_,rfl⟩|⟨hne,hj⟩
     ·exact .dead
     ·exact(hm.objs j u hj).move (λb hb=>hb) (λ_ _=>rfl) (λ_ _=>rfl) (hρ hne) λi hi=>hρ (hout (hm.ocl j u hj i hi))
    own := λj u b hj hl hb=>by
     rcases hin2 hj with⟨_,rfl⟩|⟨hne,hj⟩
     ·cases hl
     ·simp only[hρ hne]at hb;obtain⟨h1,h2,h3⟩:=hm.own j u b hj hl hb;exact⟨h1,h2,h3.imp (λh=>h) λh=>List.mem_cons_of_mem _ h⟩
    inj := λj j' u u' b h1 h2 h3 h4 h5 h6=>by
     rcases hin2 h1 with⟨_,rfl⟩|⟨hne,h1⟩
     ·cases h2
     ·rcases hin2 h3 with⟨_,rfl⟩|⟨hne',h3⟩
      ·cases h4
      ·simp only[hρ hne]at h5;simp only[hρ hne']at h6;exact hm.inj j j' u u' b h1 h2 h3 h4 h5 h6
    ocl:=λj u hj i hi=>by
     rcases hin2 hj with⟨_,rfl⟩|⟨hne,hj⟩
     ·cases hi
     ·exact hcons (hm.ocl j u hj i hi)
    imlt:=hm.imlt,im0:=λb hb=>hm.im0 b (.inl hb)
    imf := λb hb=>by
     rcases hm.imf b hb with h1|h1|⟨j,h1,h2⟩
     ·rcases h1 with h1|h1
      ·exact .inl h1
      ·exact .inr (.inr ⟨id,List.mem_cons_self,h1⟩)
     ·exact .inr (.inl h1)
     ·exact .inr (.inr ⟨j,List.mem_cons_of_mem _ h1,h2⟩)
    os:=hm.os,tape:=hm.tape,output:=hm.output,size:=hm.size
    frame:=λb hb hp=>hm.frame b hb λi hi=>hp i (List.mem_cons_of_mem _ hi)
    pin := λj hj=>by
     rcases List.mem_cons.1 hj with rfl|hj
     ·exact⟨if_pos rfl,hself _ _⟩
     ·have hne:j≠id:=λe=>hnin (e▸hj);exact⟨(hρ hne).trans (hm.pin j hj).1,hcons (hm.pin j hj).2⟩
    lrc:=hm.lrc,rnd:=hm.rnd }
theorem CallSpec.thaw{P:Program}{f:FuncId}{us vs:List AV}{ins outs:Xc}{r:AV}(id:Nat){n m sz T:Nat}{get get':Nat->List AV}(h:CallSpec P f (us++.isl n sz get::vs) ins r outs)(hnm:n<=m)(hg:∀i,i<n->get' i=get i)(him:∀i,i<m->nmL [] (get' i)=true)
  (hi1:luL ins id=none) (hi2:luL outs id=none):CallSpec P f (us++.osl id n::vs) ((id,.arr m sz get' T)::ins) r ((id,.dead)::outs):=by
 refine h.thawR id him hi1 hi2 λρ Im H xs hoo hx=>?_;refine⟨by rw[hx.1];simp,λi c x hc hxi=>?_⟩;by_cases hu:i<us.length
 ·rw[List.getElem?_append_left hu]at hc;exact(hx.2 i c x (by rw[List.getElem?_append_left hu];exact hc) hxi).mono (λb hb=>.inl hb) λ_ _=>rfl
 ·by_cases he:i=us.length
  ·subst he;simp only[List.getElem?_append_right (ξ _),Nat.sub_self,List.getElem?_cons_zero,Option.some.injEq]at hc;subst hc;have h1:=hx.2 us.length (.osl id n) x η hxi;have h2:=iS hoo him (.osl id n) x (by simp only[frzC,Nat.beq_refl];exact hnm) h1;simp only[frzV,Nat.beq_refl,cond_true]at h2;exact(AvLe.isl rfl hg).con _ _ _ _ h2
  ·obtain⟨k,rfl⟩:∃k,i=us.length+(k+1):=⟨i-us.length-1,ω⟩;have hc':vs[k]? =some c:=by
    rw[List.getElem?_append_right ω]at hc;simpa using hc
   refine(hx.2 _ c x ?_ hxi).mono (λb hb=>.inl hb) λ_ _=>rfl;rw[List.getElem?_append_right ω];simpa using hc'
theorem CallSpec.arg{P:Program}{f:FuncId}{us vs:List AV}{ins outs:Xc}{r:AV}(hle:AvsLe us vs)(h:CallSpec P f vs ins r outs):CallSpec P f us ins r outs :=
 ⟨h.enter,h.icl,h.live,fun w ρ Im xs hm hx=>h.calls w ρ Im xs hm ⟨by rw[hx.1,hle.length],fun i c x h1 h2=>by
  obtain⟨u,hu,hl⟩:=hle.get i c h1;exact hl.con _ _ _ _ (hx.2 i u x hu h2)⟩⟩
def cdr:Code->Code
 |.seq _ b=>b
 |c=>c
def bodyOf(f:Func):Code:=match f.body with
 |some c=>c
 |none=>.skip
def zC(env:List (Nat×AV)):List Nat->List (Nat×AV)->List (Nat×AV)
 |[],acc=>acc
 |k::ks,acc=>match luS env k with
  |some v=>zC env ks ((k,v)::acc)
  |none=>zC env ks acc
def Bh(objs:Xb):List Nat->Xb->Xb
 |[],acc=>acc
 |k::ks,acc=>match luB objs k with
  |some v=>Bh objs ks ((k,some v)::acc)
  |none=>Bh objs ks acc
def St.kp(A:St)(ks os:List Nat)(e:List (Nat×AV))(o:Xb):St:=⟨zC A.env ks e,Bh A.objs os o⟩
def kpE(env:List (Nat×AV)):List Nat->List (Nat×AV)->(List (Nat×AV)->Prop)->Prop
 |[],acc,q=>q acc
 |k::ks,acc,q=>match luS env k with
  |some v=>kpE env ks ((k,v)::acc) q
  |none=>kpE env ks acc q
def kpO(objs:Xb):List Nat->Xb->(Xb->Prop)->Prop
 |[],acc,q=>q acc
 |k::ks,acc,q=>match luB objs k with
  |some v=>kpO objs ks ((k,some v)::acc) q
  |none=>kpO objs ks acc q
def kpK(A:St)(ks os:List Nat)(e:List (Nat×AV))(o:Xb)(q:St->Prop):Prop:=kpE A.env ks e λenv=>kpO A.objs os o λobjs=>q ⟨env,objs⟩
theorem rM{env:List (Nat×AV)}:∀{ks:List Nat} {acc:List (Nat×AV)} {q:List (Nat×AV)->Prop},kpE env ks acc q->q (zC env ks acc)
 |[],_,_,h=>h
 |k::ks,acc,q,h=>by
  simp only[kpE]at h;simp only[zC];cases hl:luS env k with
  |some v=>rw[hl]at h;exact rM h
  |none=>rw[hl]at h;exact rM h
theorem rN{objs:Xb}:∀{ks:List Nat} {acc:Xb} {q:Xb->Prop},kpO objs ks acc q->q (Bh objs ks acc)
 |[],_,_,h=>h
 |k::ks,acc,q,h=>by
  simp only[kpO]at h;simp only[Bh];cases hl:luB objs k with
  |some v=>rw[hl]at h;exact rN h
  |none=>rw[hl]at h;exact rN h
theorem ig{A:St}{ks os:List Nat}{e:List (Nat×AV)}{o:Xb}{q:St->Prop}(h:kpK A ks os e o q):q (A.kp ks os e o):=rN (q:=λobjs=>q ⟨zC A.env ks e,objs⟩) (rM h)
section
variable {P:Program} {X:Frm}
theorem aD{c:Code}{A:St}{K:Exit->St->Prop}{ι:Type}(ks os:List Nat)(re0:List (Nat×Nat))(i0:ι)(μ:ι->Nat)(e:ι->List (Nat×AV))(o:ι->Xb)
  (h0:Sub X re0 A (A.kp ks os (e i0) (o i0))) (h:∀i,kpK A ks os (e i) (o i) λB=>GoodS P X c B (loopK X (λi=>A.kp ks os (e i) (o i)) μ i K)):LoopG P X (.loop c) A K :=
 Bg (λi=>A.kp ks os (e i) (o i)) μ i0 (fF re0 h0) λi=>ig (h i)
theorem aE{ι:Type}{F:ι->St}{μ:ι->Nat}{i:ι}{B:St}(re:List (Nat×Nat))(j:ι)(hs:Sub X re B (F j))(hm:μ j<μ i):∃j,Ghost X B (F j)/\μ j<μ i:=⟨j,fF re hs,hm⟩
theorem ba{T:Tab}{rs:List ResultVar}{r:AV}{outs:Xc}{B:St}(h:fG T B rs (λvs=>AvLe (fW vs) r)/\dB B.o outs):∃C,Ghost X B C/\fG T C rs (λvs=>AvLe (fW vs) r)/\dB C.o outs:=⟨B,Ghost.rfl,h⟩
theorem ar{f:FuncId}{vs:List AV}{o:Xd}{k:List Nat->AV->Xb->Prop}{r:AV}(h:CallSpec P f vs [] r [])(hk:k [] r []):vCall P f vs o k:=⟨r,[],[],h,trivial,trivial,hk⟩
end
section
variable {P:Program} {X:Frm}
theorem ii{f:FuncId}{vs:List AV}{o:Xd}{k:List Nat->AV->Xb->Prop}{r:AV}{id:Nat}{a b:LObj}(h:CallSpec P f vs [(id,a)] r [(id,b)])(hin:o id=some a)(hk:k [id,id] r [(id,some b)]):vCall P f vs o k :=
 ⟨r,[(id,a)],[(id,b)],h,⟨hin,trivial⟩,⟨by simp only[luL,Nat.beq_refl,cond_true],trivial⟩,hk⟩
theorem bM{f:FuncId}(us vs:List AV){o:Xd}{k:List Nat->AV->Xb->Prop}{r:AV}{id n m sz T:Nat}{get get':Nat->List AV}(h:CallSpec P f (us++.isl n sz get::vs) [] r [])(ho:o id=some (.arr m sz get' T))(hnm:n<=m)
  (hg:∀i,i<n->get' i=get i) (him:∀i,i<m->nmL [] (get' i)=true) (hk:k [id,id] r [(id,some .dead)]):vCall P f (us++.osl id n::vs) o k :=
 ⟨r,[(id,.arr m sz get' T)],[(id,.dead)],h.thaw id hnm hg him rfl rfl,⟨ho,trivial⟩,⟨by simp only[luL,Nat.beq_refl,cond_true],trivial⟩,hk⟩
theorem qw{f:FuncId}(us vs:List AV){o:Xd}{k:List Nat->AV->Xb->Prop}{r:AV}{id j n m sz T:Nat}{get get':Nat->List AV}{a b:LObj}(h:CallSpec P f (us++.isl n sz get::vs) [(j,a)] r [(j,b)])(hj:Nat.beq id j=false)(ha:o j=some a)
  (ho:o id=some (.arr m sz get' T)) (hnm:n<=m) (hg:∀i,i<n->get' i=get i) (him:∀i,i<m->nmL [] (get' i)=true) (hk:k [id,j,id,j] r [(id,some .dead),(j,some b)]):vCall P f (us++.osl id n::vs) o k:=by
 have hji:j≠id:=λe=>by rw[e,Nat.beq_refl]at hj;cases hj
 have e1:∀v:LObj,luL [(j,v)] id=none:=λv=>by simp only[luL,hj,cond_false]
 refine⟨r,[(id,.arr m sz get' T),(j,a)],[(id,.dead),(j,b)],h.thaw id hnm hg him (e1 a) (e1 b),⟨ho,ha,trivial⟩,⟨?_,?_,trivial⟩,hk⟩
 ·rw[cg,if_pos rfl];trivial
 ·rw[cg,if_neg hji,cg,if_pos rfl];trivial
theorem wg{T:Tab}{rs:List ResultVar}{r:AV}{id:Nat}{ob:LObj}{B:St}(h:fG T B rs (λvs=>AvLe (fW vs) r))(ho:B.o id=some ob):∃C,Ghost X B C/\fG T C rs (λvs=>AvLe (fW vs) r)/\dB C.o [(id,ob)]:=⟨B,Ghost.rfl,h,ho,trivial⟩
end
section
variable {P:Program} {X:Frm}
theorem aQ{c:Code}{A:St}{K:Exit->St->Prop}(ks os:List Nat)(re:List (Nat×Nat))(e:List (Nat×AV))(o:Xb)(h:Sub X re A (A.kp ks os e o))(k:kpK A ks os e o λB=>GoodS P X c B K):GoodS P X c A K:=gM (fF re h) (ig k)
def FinG(T:Tab)(X:Frm)(rs:List ResultVar)(r:AV)(outs:Xc)(B:St):Prop:=∃C,Ghost X B C/\fG T C rs (λvs=>AvLe (fW vs) r)/\dB C.o outs
theorem bE{T:Tab}{rs:List ResultVar}{r:AV}{outs:Xc}{B:St}(ks os:List Nat)(re:List (Nat×Nat))(e:List (Nat×AV))(o:Xb)(h:Sub X re B (B.kp ks os e o))(k:kpK B ks os e o (FinG T X rs r outs)):∃C,Ghost X B C/\fG T C rs (λvs=>AvLe (fW vs) r)/\dB C.o outs:=by
 obtain⟨C,h1,h2⟩:=ig k;exact⟨C,(fF re h).trans h1,h2⟩
theorem co{T:Tab}{rs:List ResultVar}{r:AV}{outs:Xc}{B:St}(id:Nat){ob:LObj}(hob:luB B.objs id=some ob)(hp:X.pid.elem id=false)(him:imOf ob)(hc:rK id ob B.env)(hoc:jM id ob B.objs)(k:FinG T X rs r outs (B.frz id ob)):FinG T X rs r outs B:=by
 obtain⟨C,h1,h2⟩:=k;exact⟨C,(nM id hob hp him hc hoc).trans h1,h2⟩
theorem dM{T:Tab}{rs:List ResultVar}{r:AV}{B:St}(h:fG T B rs (λvs=>AvLe (fW vs) r)):FinG T X rs r [] B:=⟨B,Ghost.rfl,h,trivial⟩
theorem iT{T:Tab}{rs:List ResultVar}{r:AV}{id:Nat}{ob:LObj}{B:St}(h:fG T B rs (λvs=>AvLe (fW vs) r))(ho:B.o id=some ob):FinG T X rs r [(id,ob)] B:=⟨B,Ghost.rfl,h,ho,trivial⟩
end
def allLt:Nat->(Nat->Prop)->Prop
 |0,_=>True
 |n+1,p=>allLt n p/\p n
theorem aK{p:Nat->Prop}:∀{n:Nat},allLt n p->∀i,i<n->p i
 |0,_,i,hi=>absurd hi (Nat.not_lt_zero i)
 |n+1,h,i,hi=>by
  by_cases e:i=n
  ·rw[e];exact h.2
  ·exact aK h.1 i ω
def eget{α:Type}(enc:α->List AV)(d:α)(l:List α):Nat->List AV:=λi=>enc (l.getD i d)
def encI(v:Int):List AV:=[.int .i64 v]
theorem bW{α:Type}(enc:α->List AV)(d:α)(l:List α)(x:α){n:Nat}(hn:n=l.length)(i:Nat)(hi:i<n+1)(t:List AV)(ht:i=n->t=enc x):(bif Nat.blt i n then eget enc d l i else t)=eget enc d (l++[x]) i:=by
 subst hn;unfold eget;by_cases h:i<l.length
 ·rw[show Nat.blt i l.length=true from Nat.blt_eq.mpr h];simp[List.getElem?_append_left h]
 ·have e:i=l.length:=ω;rw[ht e];subst e;rw[show Nat.blt l.length l.length=false by cases hb:Nat.blt l.length l.length with |false=>rfl|true=>exact absurd (Nat.blt_eq.mp hb) (Nat.lt_irrefl _)];simp
theorem bD{id:Nat}{ob:LObj}(h:obCl [id] ob):∀p∈[(id,ob)],obCl ([(id,ob)].map (·.1)) p.2:=by
 intro p hp;simp only[List.mem_singleton]at hp;subst hp;exact h
def slc{α:Type}(sz:Nat)(enc:α->List AV)(d:α)(l:List α):AV:=.isl l.length sz λi=>enc (l.getD i d)
abbrev J(n:Int):AV:=.int .i64 n
def ints(l:List Int):AV:=.isl l.length 1 λi=>[J (l.getD i 0)]
structure Curve where
 vals:List Int
 per:Int
 inc:Int
deriving DecidableEq
def Curve.cells(c:Curve):List AV:=[ints c.vals,J c.per,J c.inc]
def Curve.av(c:Curve):AV:=.agg [ints c.vals,J c.per,J c.inc]
structure Line where
 kind:Int
 cap:Int
 classes:Int
 weights:List Int
 slots:List Int
deriving DecidableEq
def Line.cells(l:Line):List AV:=[J l.kind,J l.cap,J l.classes,ints l.weights,ints l.slots]
def Line.av(l:Line):AV:=.agg l.cells
structure Flow where
 name:ByteArray
 route:List Int
 class_:Int
 least:Int
 most:Int
 con:Curve
def Flow.cells(f:Flow):List AV:=[.str f.name,ints f.route,J f.class_,J f.least,J f.most,ints f.con.vals,J f.con.per,J f.con.inc]
def Flow.av(f:Flow):AV:=.agg f.cells
structure Rd where
 l:List Int
 pos:Nat
def Rd.ob(s:Rd):LObj:=.box [ints s.l,J s.pos]
def inf:Int:=4611686018427387904
theorem Ψ{u:AV}:AvLe u u:=AvLe.rfl
theorem Θ{u v:AV}(h:u=v):AvLe u v:=AvLe.of_eq h
theorem Ξ{k:IntKind}{a b:Int}(h:a=b):AvLe (.int k a) (.int k b):=AvLe.int h
theorem Γ{n n' sz:Nat}{g g':Nat->List AV}(hn:n=n')(h:∀i,i<n->g i=g' i):AvLe (.isl n sz g) (.isl n' sz g'):=AvLe.isl hn h
theorem q0a{u:LObj}:ObLe u u:=ObLe.rfl
theorem q0b{n n' sz:Nat}{g g':Nat->List AV}{T:Nat}(hn:n=n')(h:∀i,i<n->g i=g' i):ObLe (.arr n sz g T) (.arr n' sz g' T):=ObLe.arr hn h
end Go.Nc