/- Parts. -/
import Derived.Test.YtbdkgpcdkalfdaaGreatNdBV
import Derived.RangeFuncLeaves
import Derived.Scope
import Derived.RangeFuncRecord
import Derived.RangeFuncOwn
namespace Go.Nc
structure Ghost(X:Frm)(A B:St):Prop where
 run:∀a w,Rel X A.s A.o a w->Rel X B.s B.o a w
theorem Ghost.rfl{X:Frm}{A:St}:Ghost X A A:=⟨λ_ _ h=>h⟩
theorem Ghost.trans{X:Frm}{A B C:St}(h:Ghost X A B)(k:Ghost X B C):Ghost X A C:=⟨λa w r=>k.run a w (h.run a w r)⟩
mutual
def px(f:Nat->Nat):AV->AV
 |.lptr id off=>.lptr (f id) off
 |.osl id n=>.osl (f id) n
 |.osub id off n sz=>.osub (f id) off n sz
 |.optr id sz i j=>.optr (f id) sz i j
 |.mref id=>.mref (f id)
 |.yld id=>.yld (f id)
 |.fn g cs=>.fn g (H1 f cs)
 |.agg cs=>.agg (H1 f cs)
 |.tup cs=>.tup (H1 f cs)
 |v=>v
def H1(f:Nat->Nat):List AV->List AV
 |[]=>[]
 |c::cs=>px f c::H1 f cs
end
mutual
def gu(ids:List Nat):AV->Bool
 |.lptr id _=>ids.elem id
 |.osl id _=>ids.elem id
 |.osub id _ _ _=>ids.elem id
 |.optr id _ _ _=>ids.elem id
 |.mref id=>ids.elem id
 |.yld id=>ids.elem id
 |.fn _ cs=>ka ids cs
 |.agg cs=>ka ids cs
 |.tup cs=>ka ids cs
 |_=>true
def ka(ids:List Nat):List AV->Bool
 |[]=>true
 |c::cs=>gu ids c&&ka ids cs
end
theorem d7{ids:List Nat}:∀{cs:List AV},ka ids cs=true->∀c∈cs,gu ids c=true
 |[],_,c,H=>by simp at H
 |d::ds,h,c,H=>by
  simp only[ka,Bool.and_eq_true]at h;rcases List.mem_cons.1 H with rfl|H
  .exact h.1
  .exact d7 h.2 c H
theorem cH{ids:List Nat}{v:AV}{i:Nat}(H:Names i v)(h:gu ids v=true):i∈ids:=by
 induction H with
 |lptr|osl|osub|optr|mref|yld=>simpa[gu]using h
 |fn f caps c hm _ ih=>exact ih (d7 (by simpa[gu]using h) c hm)
 |agg cs c hm _ ih=>exact ih (d7 (by simpa[gu]using h) c hm)
 |tup cs c hm _ ih=>exact ih (d7 (by simpa[gu]using h) c hm)
theorem dU(f:Nat->Nat):∀cs:List AV,(H1 f cs).length=cs.length
 |[]=>rfl
 |c::cs=>by simp[H1,dU f cs]
theorem xp(f:Nat->Nat):∀(cs:List AV) (i:Nat),(H1 f cs)[i]? =(cs[i]?).map (px f)
 |[],i=>by simp[H1]
 |c::cs,0=>by simp[H1]
 |c::cs,i+1=>by simp[H1,xp f cs i]
section
variable {ρ:Loc} {Im:Nat->Prop} {H:eZ}
mutual
theorem rL(f:Nat->Nat):∀(v:AV) (x:Value),Con ρ Im H (px f v) x->Con (λi=>ρ (f i)) Im H v x
 |.lptr id off,x,h=>by
  simp only[px]at h;cases h with
  |imm _ _ hi=>cases hi
  |lptr _ _ b hb=>exact .lptr id off b hb
 |.osl id n,x,h=>by
  simp only[px]at h;cases h with
  |imm _ _ hi=>cases hi
  |osl _ _ e l h3=>exact Con.osl (ρ:=λi=>ρ (f i)) id n e l h3
 |.osub id off n sz,x,h=>by
  simp only[px]at h;cases h with
  |imm _ _ hi=>cases hi
  |osub _ _ _ _ cap p e l h3=>exact Con.osub (ρ:=λi=>ρ (f i)) id off n sz cap p e l h3
 |.optr id sz i j,x,h=>by
  simp only[px]at h;cases h with
  |imm _ _ hi=>cases hi
  |optr _ _ _ _ b hb=>exact .optr id sz i j b hb
 |.mref id,x,h=>by
  simp only[px]at h;cases h with
  |imm _ _ hi=>cases hi
  |mref _ b hb=>exact .mref id b hb
 |.yld id,x,h=>by
  simp only[px]at h;cases h with
  |imm _ _ hi=>cases hi
  |yld _ b hb=>exact .yld id b hb
 |.fn g cs,x,h=>by
  simp only[px]at h;have:∃X,x=.func (.func g) #[] X/\Cons ρ Im H (H1 f cs) X:=by
   cases h with
   |imm _ _ hi=>
    cases hi with
    |fn _ _ X a d=>exact⟨X,rfl,a,λi c x e l=>.imm _ _ (d i c x e l)⟩
   |fn _ _ X a d=>exact⟨X,rfl,a,d⟩
  obtain⟨X,rfl,a,d⟩:=this;exact .fn g cs X (by rw[a,dU]) (y2 f cs X a d)
 |.agg cs,x,h=>by
  simp only[px]at h;obtain⟨X,rfl,a,d⟩:=h.agg_inv;exact .agg cs X (by rw[a,dU]) (y2 f cs X a d)
 |.tup cs,x,h=>by
  simp only[px]at h;obtain⟨X,rfl,a,d⟩:=h.tup_inv;exact .tup cs X (by rw[a,dU]) (y2 f cs X a d)
 |.int k n,x,h=>by simp only[px]at h;cases h with |imm _ _ hi=>exact .imm _ _ hi
 |.bool b,x,h=>by simp only[px]at h;cases h with |imm _ _ hi=>exact .imm _ _ hi
 |.str s,x,h=>by simp only[px]at h;cases h with |imm _ _ hi=>exact .imm _ _ hi
 |.junk,x,h=>.imm _ _ (.junk x)
 |.isl n sz g,x,h=>by simp only[px]at h;cases h with |imm _ _ hi=>exact .imm _ _ hi
 |.icap n sz g,x,h=>by simp only[px]at h;cases h with |imm _ _ hi=>exact .imm _ _ hi
 |.eptr n sz g i j,x,h=>by simp only[px]at h;cases h with |imm _ _ hi=>exact .imm _ _ hi
 |.ibox cs off,x,h=>by simp only[px]at h;cases h with |imm _ _ hi=>exact .imm _ _ hi
 |.emp,x,h=>by simp only[px]at h;cases h with |imm _ _ hi=>exact .imm _ _ hi
 |.nils,x,h=>by simp only[px]at h;cases h with |imm _ _ hi=>exact .imm _ _ hi
 |.niface,x,h=>by simp only[px]at h;cases h with |imm _ _ hi=>exact .imm _ _ hi
 |.nfunc,x,h=>by simp only[px]at h;cases h with |imm _ _ hi=>exact .imm _ _ hi
 |.nptr,x,h=>by simp only[px]at h;cases h with |imm _ _ hi=>exact .imm _ _ hi
 |.nmap,x,h=>by simp only[px]at h;cases h with |imm _ _ hi=>exact .imm _ _ hi
 |.iface t v,x,h=>by simp only[px]at h;cases h with |imm _ _ hi=>exact .imm _ _ hi
theorem y2(f:Nat->Nat):∀(cs:List AV) (X:Array Value),X.size=(H1 f cs).length->(∀(i:Nat) (c:AV) (x:Value),(H1 f cs)[i]? =some c->X[i]? =some x->Con ρ Im H c x)->
  ∀(i:Nat) (c:AV) (x:Value),cs[i]? =some c->X[i]? =some x->Con (λi=>ρ (f i)) Im H c x
 |[],_,_,_,i,c,x,h,_=>by simp at h
 |d::ds,X,hl,hc,0,c,x,h,hx=>by
  simp at h;subst h;exact rL f d x (hc 0 _ x (by simp[H1]) hx)
 |d::ds,X,hl,hc,i+1,c,x,h,hx=>by
  refine y2 f ds (X.extract 1 X.size) (by simp[H1]at hl⊢;omega) (λj C e b a=>hc (j+1) C e (by simpa[H1]using b) ?_) i c x (by simpa using h) ?_
  .simp only[Array.getElem?_extract]at a;split at a
   .rw[Nat.add_comm];exact a
   .cases a
  .simp only[Array.getElem?_extract];have:i+1<X.size:=(Array.getElem?_eq_some_iff.1 hx).1;rw[if_pos Z,Nat.add_comm];exact hx
end
end
structure AvLe(u v:AV):Prop where
 con:∀(ρ:Loc) (Im:Nat->Prop) (H:eZ) (x:Value),Con ρ Im H u x->Con ρ Im H v x
theorem AvLe.rfl{u:AV}:AvLe u u:=⟨λ_ _ _ _ h=>h⟩
theorem AvLe.of_eq{u v:AV}(h:u=v):AvLe u v:=h▸AvLe.rfl
theorem AvLe.int{k:IntKind}{a b:Int}(h:a=b):AvLe (.int k a) (.int k b):=AvLe.of_eq (by rw[h])
theorem AvLe.junk{u:AV}:AvLe u .junk:=⟨λ_ _ _ x _=>.imm _ _ (.junk x)⟩
theorem AvLe.nils{sz:Nat}{g:Nat->List AV}:AvLe .nils (.isl 0 sz g):=⟨λ_ _ _ _ h=>by cases h.nils_inv;exact .imm _ _ (.isl0 _ _ _)⟩
theorem AvLe.isl{n N sz:Nat}{g G:Nat->List AV}(d:n=N)(h:∀i,i<n->g i=G i):AvLe (.isl n sz g) (.isl N sz G):=by
 subst d;refine⟨λρ Im H x k=>?_⟩;cases k with
 |imm _ _ a=>
  cases a with
  |isl0=>exact .imm _ _ (.isl0 _ _ _)
  |isl _ _ _ b off cap arr T fr him hb hsz d hbd hfit hc=>
   exact .imm _ _ (.isl _ _ _ b off cap arr T fr him hb (λi a=>by rw[<-h i a];exact hsz i a) d hbd hfit λi j c x a e f=>hc i j c x a (by rw[h i a];exact e) f)
inductive AvsLe:List AV->List AV->Prop
 |nil:AvsLe [] []
 |cons {u v us vs} (h:AvLe u v) (hs:AvsLe us vs):AvsLe (u::us) (v::vs)
theorem AvsLe.length{us v:List AV}(h:AvsLe us v):us.length=v.length:=by
 induction h with
 |nil=>rfl
 |cons _ _ ih=>simp[ih]
theorem AvsLe.get{us V:List AV}(h:AvsLe us V):∀(i:Nat) (v:AV),V[i]? =some v->∃u,us[i]? =some u/\AvLe u v:=by
 induction h with
 |nil=>intro i v h;simp at h
 |cons h1 _ ih=>
  intro i v H;cases i with
  |zero=>simp at H;subst H;exact⟨_,by simp,h1⟩
  |succ i=>simpa using ih i v (by simpa using H)
theorem AvLe.agg{us v:List AV}(h:AvsLe us v):AvLe (.agg us) (.agg v):=by
 refine⟨λρ Im H x j=>?_⟩;obtain⟨X,rfl,f,e⟩:=j.agg_inv;exact .agg v X (by rw[f,h.length]) λi c x b d=>by
  obtain⟨u,g,a⟩:=h.get i c b;exact a.con _ _ _ _ (e i u x g d)
theorem AvLe.tup{us v:List AV}(h:AvsLe us v):AvLe (.tup us) (.tup v):=by
 refine⟨λρ Im H x j=>?_⟩;obtain⟨X,rfl,f,e⟩:=j.tup_inv;exact .tup v X (by rw[f,h.length]) λi c x b d=>by
  obtain⟨u,g,a⟩:=h.get i c b;exact a.con _ _ _ _ (e i u x g d)
structure ObLe(u v:LObj):Prop where
 live:u.live=v.live
 con:∀(ρ:Loc) (Im:Nat->Prop) (H:eZ) (id:Nat),ObjCon ρ Im H id u->ObjCon ρ Im H id v
theorem ObLe.rfl{u:LObj}:ObLe u u:=⟨_root_.rfl,λ_ _ _ _ h=>h⟩
theorem ObLe.of_eq{u v:LObj}(h:u=v):ObLe u v:=h▸ObLe.rfl
theorem ObLe.arr{n N sz:Nat}{g G:Nat->List AV}{T:Nat}(k:n=N)(h:∀i,i<n->g i=G i):ObLe (.arr n sz g T) (.arr N sz G T):=by
 subst k;refine⟨_root_.rfl,λρ Im H id f=>?_⟩;cases f with
 |arr0 _ _ _ h1=>exact .arr0 _ _ _ h1
 |arr _ _ _ _ b xs h1 h2 h3 h4 h5 h6 h7 h8=>exact .arr _ _ _ _ b xs h1 h2 h3 h4 h5 h6 (λi a=>by rw[<-h i a];exact h7 i a) λi j c x a e d=>h8 i j c x a (by rw[h i a];exact e) d
theorem ObLe.box{us v:List AV}(h:AvsLe us v):ObLe (.box us) (.box v):=by
 refine⟨_root_.rfl,λρ Im H id f=>?_⟩;cases f with
 |box _ b xs T h1 h2 h3=>
  refine .box v b xs T h1 h2 ⟨by rw[h3.1,h.length],λi c x d e=>?_⟩;obtain⟨u,g,a⟩:=h.get i c d;exact a.con _ _ _ _ (h3.2 i u x g e)
def eu(ids:List Nat):LObj->Prop
 |.box cs=>ka ids cs=true
 |.arr n _ get _=>∀i,i<n->ka ids (get i)=true
 |.map kvs=>∀k v,(k,v)∈kvs->gu ids k=true/\gu ids v=true
 |.lrec _ _ _ cs _ _ _ _=>ka ids cs=true
 |.dead=>True
theorem dV{ids:List Nat}{ob:LObj}(h:eu ids ob){i:Nat}(H:NamesO i ob):i∈ids:=by
 cases H with
 |box cells c hm H=>exact cH H (d7 h c hm)
 |arr n sz get T j c hj hm H=>exact cH H (d7 (h j hj) c hm)
 |mapK kvs k v hm H=>exact cH H (h k v hm).1
 |mapV kvs k v hm H=>exact cH H (h k v hm).2
 |lrec st pe ks cs ps assign body nt c hm H=>exact cH H (d7 h c hm)
def J2(f:Nat->Nat):LObj->LObj
 |.box cs=>.box (H1 f cs)
 |.arr n sz get T=>.arr n sz (λi=>H1 f (get i)) T
 |.map kvs=>.map (kvs.map λp=>(px f p.1,px f p.2))
 |.lrec st pe ks cs ps assign body nt=>.lrec st pe ks (H1 f cs) ps assign body nt
 |.dead=>.dead
theorem tz(f:Nat->Nat)(ob:LObj):(J2 f ob).live=ob.live:=by cases ob<;>rfl
theorem Ig{ρ:Loc}{Im:Nat->Prop}{H:eZ}{f:Nat->Nat}{id:Nat}{ob:LObj}(h:ObjCon ρ Im H (f id) (J2 f ob)):ObjCon (λi=>ρ (f i)) Im H id ob:=by
 cases ob with
 |box cs=>
  cases h with
  |box _ b xs T h1 h2 h3=>exact .box cs b xs T h1 h2 ⟨by rw[h3.1,dU],y2 f cs xs h3.1 h3.2⟩
 |arr n sz get T=>
  cases h with
  |arr0 _ _ _ h1=>exact .arr0 _ _ _ h1
  |arr _ _ _ _ b xs h1 h2 h3 h4 a d h7 h8=>
   refine .arr n sz get T b xs h1 h2 h3 h4 a d (λi l=>by rw[<-h7 i l,dU]) λi j c x l m g=>?_;exact rL f c x (h8 i j _ x l (by rw[xp,m];rfl) g)
 |map kvs=>
  cases h with
  |map _ b es clock h1 h2 h3 h4=>
   refine .map kvs b es clock h1 h2 (by rw[h3];simp) λi k v e a d=>?_;have:=h4 i (px f k) (px f v) e (by simp[a]) d;exact⟨rL f k _ this.1,rL f v _ this.2⟩
 |lrec st pe ks cs ps assign body nt=>
  cases h with
  |lrec _ _ _ _ _ _ _ _ b r h1 h2 h3 h4=>
   refine .lrec st pe ks cs ps assign body nt b r h1 h2 { h3 with len:=by rw[h3.len,dU] } λi k c a d=>?_;obtain⟨x,p,o⟩:=h4 i k _ a (by rw[xp,d];rfl);exact⟨x,p,rL f c x o⟩
 |dead=>exact .dead
def J4:List (Nat×Nat)->Nat->Nat
 |[],i=>i
 |(k,v)::r,i=>bif Nat.beq i k then v else J4 r i
def MK(A:St)(f:Nat->Nat)(ids:List Nat):List (Nat×AV)->Prop
 |[]=>True
 |(k,v)::r=>(gu ids v=true/\match mz A.env k with |some u=>AvLe u (px f v)|none=>False)/\MK A f ids r
def MJ(A:St)(f:Nat->Nat)(ids:List Nat):Xb->Prop
 |[]=>True
 |(i,some ob)::r=>(eu ids ob/\match eU A.objs (f i)with |some u=>ObLe u (J2 f ob)|none=>False)/\MJ A f ids r
 |(_,none)::_=>False
def yU:List Nat->Bool
 |[]=>true
 |x::r=>!r.elem x&&yU r
def KN(X:Frm)(r:List (Nat×Nat))(A B:St):Prop :=
 (yU ((B.objs.map (·.1)).map (J4 r))=true/\(X.pid.all λi=>(B.objs.map (·.1)).elem i&&Nat.beq (J4 r i) i)=true)/\MJ A (J4 r) (B.objs.map (·.1)) B.objs/\MK A (J4 r) (B.objs.map (·.1)) B.env
theorem mH{f:Nat->Nat}:∀{l:List Nat},yU (l.map f)=true->∀x∈l,∀y∈l,f x=f y->x=y
 |[],_,x,b,_,_,_=>by simp at b
 |a::r,h,x,b,y,c,he=>by
  simp only[List.map_cons,yU,Bool.and_eq_true,Bool.not_eq_true']at h;have d:∀z∈r,f z≠f a:=λz j e=>by
   have i:=h.1;rw[List.elem_eq_true_of_mem (by rw[<-e];exact List.mem_map.2 ⟨z,j,rfl⟩)]at i;cases i
  rcases List.mem_cons.1 b with g|b
  .rcases List.mem_cons.1 c with H|c
   .rw[g,H]
   .rw[g]at he;exact absurd he.symm (d y c)
  .rcases List.mem_cons.1 c with H|c
   .rw[H]at he;exact absurd he (d x b)
   .exact mH h.2 x b y c he
theorem vt{A:St}{f:Nat->Nat}{ids:List Nat}:∀{l:List (Nat×AV)},MK A f ids l->∀k v,mz l k=some v->gu ids v=true/\∃u,A.s k=some u/\AvLe u (px f v)
 |[],_,k,v,h=>by simp[mz]at h
 |(k0,v0)::r,hs,k,v,h=>by
  simp only[mz,aJ]at h;split at h
  .rename_i H;subst H;simp only[Option.some.injEq]at h;subst h;refine⟨hs.1.1,?_⟩;have:=hs.1.2;cases hl:mz A.env k with
   |none=>rw[hl]at this;exact this.elim
   |some u=>rw[hl]at this;exact⟨u,hl,this⟩
  .exact vt hs.2 k v h
theorem vu{A:St}{f:Nat->Nat}{ids:List Nat}:∀{l:Xb},MJ A f ids l->∀i,(i∈l.map (·.1)->eU l i≠none)/\∀ob,eU l i=some ob->i∈l.map (·.1)/\eu ids ob/\∃u,A.o (f i)=some u/\ObLe u (J2 f ob)
 |[],_,i=>⟨by simp,λob h=>by simp[eU]at h⟩
 |(i0,none)::r,hs,i=>hs.elim
 |(i0,some ob0)::r,hs,i=>by
  simp only[eU,aJ];by_cases H:i=i0
  .subst H;rw[if_pos rfl];refine⟨λ_=>by simp,λob h=>?_⟩;simp only[Option.some.injEq]at h;subst h;refine⟨by simp,hs.1.1,?_⟩;have:=hs.1.2;cases hl:eU A.objs (f i)with
   |none=>rw[hl]at this;exact this.elim
   |some u=>rw[hl]at this;exact⟨u,hl,this⟩
  .rw[if_neg H];obtain⟨a,b⟩:=vu hs.2 i;exact⟨λh=>a (by simpa[H]using h),λob h=>by obtain⟨c,d⟩:=b ob h;exact⟨by simp[c],d⟩⟩
theorem fW{X:Frm}(r:List (Nat×Nat)){A B:St}(h:KN X r A B):Ghost X A B:=by
 obtain⟨⟨o,e⟩,R,Q⟩:=h;refine⟨?_⟩;rintro a w ⟨ρ,Im,c⟩;have f:=vu R;have G:=vt Q;have g:∀i,i∈B.objs.map (·.1)->B.o i≠none:=λi m=>(f i).1 m;refine ⟨fun i=>ρ (J4 r i),Im,
  {objs:=fun id ob H=>?_,own:=fun id ob b H s hb=>?_,inj:=fun id I ob O b H s p t hb q=>?_,ocl:=fun id ob H i m=>g i (dV ((f id).2 ob H).2.1 m),imlt:=c.imlt,im0:=c.im0,imf:=c.imf,
   os:=c.os,tape:=c.tape,output:=c.output,size:=c.size,frame:=c.frame,pin:=λid K=>?_,slots:=λk v F=>?_,scl:=λk v F i m=>g i (cH m (G k v F).1),defers:=c.defers,nt:=c.nt,lrc:=c.lrc,rnd:=c.rnd }⟩
 .obtain⟨_,_,u,j,d⟩:=(f id).2 ob H;exact Ig (d.2 _ _ _ _ (c.objs _ u j))
 .obtain⟨_,_,u,j,d⟩:=(f id).2 ob H;have y:u.live=true:=by rw[d.1,tz];exact s
  obtain⟨L,N,l⟩:=c.own _ u b j y hb;refine⟨L,N,?_⟩;rcases l with l|l
  .exact .inl l
  .right
   rw[List.all_eq_true]at e;have hq:=e _ l;simp only[Bool.and_eq_true]at hq;have E:J4 r (J4 r id)=J4 r id:=Nat.eq_of_beq_eq_true hq.2;have z:J4 r id∈B.objs.map (·.1):=by simpa using hq.1
   have:=mH o (J4 r id) z id ((f id).2 ob H).1 E;rw[<-this];exact l
 .obtain⟨z,_,u,j,d⟩:=(f id).2 ob H;obtain⟨C,_,V,D,n⟩:=(f I).2 O p;have:=c.inj _ _ u V b j (by rw[d.1,tz];exact s) D (by rw[n.1,tz];exact t) hb q;exact mH o id z I C this
 .rw[List.all_eq_true]at e;have hq:=e _ K;simp only[Bool.and_eq_true]at hq;have E:J4 r id=id:=Nat.eq_of_beq_eq_true hq.2;exact⟨by rw[E];exact(c.pin id K).1,g id (by simpa using hq.1)⟩
 .obtain⟨_,u,j,d⟩:=G k v F;obtain⟨x,S,P⟩:=c.slots k u j;exact⟨x,S,rL _ v x (d.con _ _ _ _ P)⟩
section
variable {P:Program} {X:Frm}
theorem im{c:Code}{A B:St}{K:Exit->St->Prop}(H:Ghost X A B)(h:GoodS P X c B K):GoodS P X c A K:=⟨λa w b=>h.run a w (H.run a w b)⟩
def LX(X:Frm){ι:Type}(F:ι->St)(a:ι->Nat)(i:ι)(K:Exit->St->Prop):Exit->St->Prop
 |.normal,B=>∃j,Ghost X B (F j)/\a j<a i
 |e,B=>K e B
theorem Cr{c:Code}{A:St}{K:Exit->St->Prop}{ι:Type}(F:ι->St)(v:ι->Nat)(I:ι)(y:Ghost X A (F I))(h:∀i,GoodS P X c (F i) (LX X F v i K)):LoopG P X (.loop c) A K:=by
 refine⟨⟨λa w G=>?_⟩⟩;intro b k cs u hb m;have key:∀(n:Nat) (i:ι) (a:Act) (w:World),v i=n->Rel X (F i).s (F i).o a w->
   ∃e r s,(∃B:St,K e B/\Rel X B.s B.o r s)/\ArrivesIn (Machine.fenced P (rf X.w0.ro)) P (lone (b.atR a (.code c::.inLoop c::k)) cs w) b k cs e r s:=by
  intro n;induction n using Nat.strongRecOn with
  |_ n ih=>
   intro i a w D z;obtain⟨e,d,W,⟨B,hq,o⟩,H⟩:=(h i).run a w z b (.inLoop c::k) cs u hb m;cases e with
   |normal=>
    obtain⟨j,C,t⟩:=hq;obtain⟨E,p,q,g,f⟩:=ih (v j) (D▸t) j d W _root_.rfl (C.run _ _ o);exact⟨E,p,q,g,.of_steps (StepsIn.trans H (.one (fenced_calm hb m _root_.rfl) stepR_inLoop)) f⟩
   |exit id=>exact⟨_,d,W,⟨B,hq,o⟩,.pass (x:=.inLoop c) rfl (λ_ _=>.inl ν) H⟩
   |goto l=>exact⟨_,d,W,⟨B,hq,o⟩,.pass (x:=.inLoop c) rfl (λ_ _=>.inl ν) H⟩
   |ret=>exact⟨_,d,W,⟨B,hq,o⟩,.pass (x:=.inLoop c) rfl (λ_ _=>.inl ν) H⟩
   |panic ch=>exact⟨_,d,W,⟨B,hq,o⟩,.pass (x:=.inLoop c) rfl (λ_ _=>.inl ν) H⟩
   |outgrown=>exact⟨_,d,W,⟨B,hq,o⟩,.pass (x:=.inLoop c) rfl (λ_ _=>.inl ν) H⟩
 obtain⟨e,r,s,hq,H⟩:=key _ I a w _root_.rfl (y.run a w G);exact⟨e,r,s,hq,.of_steps (.one (fenced_calm hb m _root_.rfl) stepR_loop) H⟩
theorem RelAt.unmark{ρ:Loc}{Im:Nat->Prop}{s:Nat->Option AV}{o:Xd}{a:Act}{w:World}(h:RelAt X ρ Im s o a w){d:Deferred}{t:List Deferred}(C:a.defers=d::t) :
  ∃D W,d.target=.collected D/\(Instr.takeDeferred D).run P w=.ok [] W/\RelAt X ρ Im s o { a with defers:=t } W:=by
 have H:=h.defers;rw[C]at H;obtain⟨D,rfl,n,A,K⟩:=H.mark d ν;have E:D<w.heap.size:=(Array.getElem?_eq_some_iff.1 n).1;have c:∀b,b≠D->(w.putObj D (.deferred none)).heap[b]? =w.heap[b]?:=λb hb=>World.putObj_heap_other (λe=>hb e);have m:∀b,Im b->(w.putObj D (.deferred none)).heap[b]? =w.heap[b]?:=λb hb=>c b λe=>A (e▸hb);have p:∀id ob,o id=some ob->ob.live=true->∀b,(ρ id).1=some b->b≠D:=λid ob f g b hb e=>((h.objs id ob f).noSys g hb).1 _ (e▸n);have i:(w.putObj D (.deferred none)).heap.size=w.heap.size:=by simp[World.putObj]
 refine ⟨D,_,rfl,run_takeDeferred n,
  {objs:=fun id ob f=>?_,own:=fun id ob b f g hb=>by rw[i];exact h.own id ob b f g hb,inj:=h.inj,ocl:=h.ocl,imlt:=fun b hb=>by rw[i];exact h.imlt b hb,im0:=h.im0,imf:=h.imf,os:=h.os,tape:=h.tape,output:=h.output,
   size:=by rw[i];exact h.size,frame:=λb hb F=>(c b Z).trans (h.frame b hb F),pin:=h.pin,lrc:=λl r g=>?_,rnd:=h.rnd,
   slots:=λk v G=>let⟨x,I,B⟩:=h.slots k v G;⟨x,I,B.mono (λb hb=>hb) m⟩,scl:=h.scl,nt:=h.nt,defers:=⟨λd j=>?_,(List.nodup_cons.1 H.nd).2⟩ }⟩
 .by_cases g:ob.live=true
  .exact(h.objs id ob f).move (λb hb=>hb) m (λb hb=>c b (p id ob f g b hb)) rfl λ_ _=>rfl
  .cases ob with
   |dead=>exact .dead
   |_=>simp[LObj.live]at g
 .obtain⟨st,pe,f⟩:=h.lrc l r g;exact⟨st,pe,(c l λe=>by rw[e,n]at f;cases f).trans f⟩
 .obtain⟨q,rfl,u,y,z⟩:=H.mark d (by simp[j]);refine⟨q,rfl,(c q λe=>?_).trans u,y,z⟩;subst e;exact(List.nodup_cons.1 H.nd).1 j
theorem kY{f:Func}{R:Ending->World->Prop}{ρ:Loc}{Im:Nat->Prop}{s:Nat->Option AV}{o:Xd}:∀(b:List Deferred) (a:Act) (w:World),a.defers=b->RelAt X ρ Im s o a w->
  (∀W,RelAt X ρ Im s o { a with defers:=[] } W->∃v,(results f a.tmps).run P W=.ok v W/\R (.returned v) W)->LeavesInM Fence.wide 0 P f a.tmps R b .returning w
 | [],a,w,hd,hr,k=>k w (by
   have e:({ a with defers:=[] }:Act)=a:=by cases a;simp at hd;simp[hd]
   rw[e];exact hr)
 |d::b,a,w,hd,hr,k=>by
  obtain⟨D,c,h,H,g⟩:=hr.unmark (P:=P) hd;exact⟨by simp,.inl ⟨D,c,h,H,kY b { a with defers:=b } c rfl g k⟩⟩
theorem dW{b:Frame}{a:Act}{k:List Item}{cs:List Frame}{w:World}{c:Code}:step P (lone (b.atR a (.code (.scope c)::k)) cs w)=.next (lone (b.atR a (.code c::.inScope c::k)) cs w) :=
 step_lone_go (by simp[stepG,stepG.exec,Frame.atR])
theorem t5{b:Frame}{a:Act}{k:List Item}{cs:List Frame}{w:World}{c:Code}:step P (lone (b.atR a (.inScope c::k)) cs w)=.next (lone (b.atR a k) cs w) :=
 step_lone_go (by simp[stepG,stepG.exec,Frame.atR])
theorem AN{F:Fence}{n:Nat}{Q:Exit->Act->World->Prop}{a:Act}{w:World}{c:Code}(h:c.wpIn F n P (Exit.noGoto Q) a w):(Code.scope c).wpIn F n P Q a w:=by
 intro b k cs j hb g;have d:(lone (b.atR a (.code (.scope c)::k)) cs w).fenced P F:=fenced_calm hb g rfl;obtain⟨e,A,W,hq,H⟩:=h b (.inScope c::k) cs j hb g;have m:∀id,exitTo id (.inScope c::k)=exitTo id k:=λid=>by simp[exitTo]
 cases e with
 |normal=>exact⟨.normal,A,W,hq,.head d dW (StepsIn.trans H (.one (fenced_calm hb g rfl) t5))⟩
 |exit id=>
  exact⟨.exit id,A,W,hq,λq f=>.head d dW (H.1 q (by rw[m];exact f)),λi f=>let⟨K,o,p⟩:=H.2 i (by rw[m];exact f);⟨K,o,.head d dW p⟩⟩
 |goto l=>exact hq.elim
 |ret=>exact⟨_,A,W,hq,.of_steps (.one d dW) H⟩
 |panic ch=>exact⟨_,A,W,hq,.of_steps (.one d dW) H⟩
 |outgrown=>exact⟨_,A,W,hq,.of_steps (.one d dW) H⟩
def fX(T:kb)(A:St):List ResultVar->(List AV->Prop)->Prop
 |[],k=>k []
 |.tmp t::r,k=>match mz A.env t with
  |some v=>fX T A r λV=>k (v::V)
  |none=>False
 |.cell t ty::r,k=>match mz A.env t,gq T ty with
  |some p,some ti=>iB A.o p λcs o _=>oH ti cs o λv=>fX T A r λV=>k (v::V)
  |_,_=>False
def gJ:List AV->AV
 |[v]=>v
 |vs=>.tup vs
def oO(tmps:Array Value):ResultVar->Sem Value
 |.tmp t=>pure (tmps.getD t undef)
 |.cell t ty=>do loadVar ty (<-asAddr (tmps.getD t undef))
theorem kB{T:kb}(G:fK P T){A:St}:∀(l:List ResultVar) {k:List AV->Prop},fX T A l k->
  ∃ V,k V/\∀ (ρ:Loc) (Im:Nat -> Prop) (a:Act) (w:World),RelAt X ρ Im A.s A.o a w -> (∃j:List Value,(l.mapM (oO a.tmps)).run P w=.ok j w/\
   Cons ρ Im w.heap V j.toArray)
 |[],k,h=>⟨[],h,λρ Im a w _=>⟨[],by simp,rfl,by intro i c x o;simp at o⟩⟩
 |.tmp t::r,k,h=>by
  simp only[fX]at h;split at h
  .rename_i v hv;obtain⟨V,K,H⟩:=kB G r h;refine⟨v::V,K,λρ Im a w g=>?_⟩;obtain⟨j,S,L,o⟩:=H ρ Im a w g;obtain⟨x,R,e⟩:=g.slots t v hv;refine⟨x::j,?_,by simpa using L,λi c y m n=>?_⟩
   .have E:(oO a.tmps (.tmp t)).run P w=.ok x w:=by simp[oO,R]
    rw[List.mapM_cons];simp only[Sem.run_bind,Sem.run_pure,Result.andThen_ok,S,E]
   .cases i with
    |zero=>simp at m n;subst m;subst n;exact e
    |succ i=>exact o i c y (by simpa using m) (by simpa using n)
  .exact h.elim
 |.cell t ty::r,k,h=>by
  simp only[fX]at h;split at h
  .rename_i p ti hp Q;obtain⟨cs,O,ro,m,u⟩:=ke h;obtain⟨v,n,_,f⟩:=nC (G ty ti Q) m;obtain⟨V,K,H⟩:=kB G r n;refine⟨v::V,K,λρ Im a w g=>?_⟩;obtain⟨j,S,L,o⟩:=H ρ Im a w g;obtain⟨x,R,e⟩:=g.slots t p hp;obtain⟨b,B,C,W,fr,rfl,hb,q,d,_⟩:=u A.o (λ_ _=>rfl) X ρ Im w g.toMem x e;obtain⟨y,N,I⟩:=f ρ Im w b B C W fr hb q d;refine⟨y::j,?_,by simpa using L,λi c z D F=>?_⟩
   .have s:(loadVar ty ⟨b,B+O,none⟩).run P w=.ok y w:=by
     simpa[Instr.loadAt,Instr.sureAddr]using N
    have hg:a.tmps.getD t undef=.pointer (some ⟨b,B+O,none⟩):=by simp[R]
    have E:(oO a.tmps (.cell t ty)).run P w=.ok y w:=by
     simp only[oO,hg];simp[asAddr,s]
    rw[List.mapM_cons];simp only[Sem.run_bind,Sem.run_pure,Result.andThen_ok,S,E]
   .cases i with
    |zero=>simp at D F;subst D;subst F;exact I
    |succ i=>exact o i c z (by simpa using D) (by simpa using F)
  .exact h.elim
theorem xq{f:Func}{a:Act}{w:World}{y:List Value}(h:(f.results.toList.mapM (oO a.tmps)).run P w=.ok y w):(results f a.tmps).run P w=.ok (if h:y.length=1 then y[0]else .tuple y.toArray) w:=by
 have e:results f a.tmps = (do
   let v <-f.results.mapM (oO a.tmps)
   pure (if h:v.size=1 then v[0]else .tuple v)):=rfl
 rw[e,Array.mapM_eq_mapM_toList];simp only[Sem.run_bind,Sem.run_map,h,Result.andThen_ok,Sem.run_pure];rfl
def kZ:Nat->List AV->List (Nat×AV)
 |_,[]=>[]
 |i,v::vs=>(i,v)::kZ (i+1) vs
theorem mI:∀(V:List AV) (i k:Nat) (v:AV),mz (kZ i V) k=some v->∃j,k=i+j/\V[j]? =some v
 |[],i,k,v,h=>by simp[kZ,mz]at h
 |u::V,i,k,v,h=>by
  simp only[kZ,mz,aJ]at h;split at h
  .rename_i b;simp only[Option.some.injEq]at h;exact⟨0,Z,by simp[h]⟩
  .obtain⟨j,a,H⟩:=mI V (i+1) k v h;exact⟨j+1,Z,by simpa using H⟩
def NJ(T:kb)(X:Frm)(R:List ResultVar)(r:AV)(outs:Xc):Exit->St->Prop
 |.normal,B=>∃C,Ghost X B C/\fX T C R (λv=>AvLe (gJ v) r)/\dT C.o outs
 |.ret,B=>∃C,Ghost X B C/\fX T C R (λv=>AvLe (gJ v) r)/\dT C.o outs
 |_,_=>False
theorem vv{T : kb}(hT : fK P T){f : FuncId}{q : Func}{c : Code}(hf : P.funcs[f]? =some q)(hb : q.body=some c)(N : (q.name== "runtime.NumGoroutine")=false){args : List AV}{I outs : Xc}{r : AV}
  (hlen:args.length<=q.ntmps)
  (hcl:(I.all λp=>p.2.live)=true/\ka (I.map (·.1)) args=true/\gu (outs.map (·.1)) r=true/\(∀p∈I,eu (I.map (·.1)) p.2)/\(∀p∈outs,eu (outs.map (·.1)) p.2)/\(I.all λp=>(outs.map (·.1)).elem p.1)=true)
  (h:∀(w0:World0) (R:Nat->Prop) (ρ0:Loc),GoodS P ⟨w0,R,I.map (·.1),ρ0,q.ntmps⟩ c ⟨kZ 0 args,bg I⟩ (NJ T ⟨w0,R,I.map (·.1),ρ0,q.ntmps⟩ q.results.toList r outs)) :
  CallSpec P f args I r outs:=by
 obtain⟨o,hna,hnr,hci,hco,L⟩:=hcl;have mw:∀{l:Xc} {id:Nat} {ob:LObj},e7 l id=some ob->(id,ob)∈l:=by
  intro l;induction l with
  |nil=>intro id ob h;simp[e7]at h
  |cons p r ih=>
   obtain⟨k,v⟩:=p;intro id ob h;simp only[e7,aJ]at h;split at h
   .rename_i hk;simp only[Option.some.injEq]at h;subst hk;subst h;simp
   .simp[ih h]
 refine⟨λxs w=>?_,λid ob t i D=>bJ.2 (dV (hci _ (mw t)) D),λid ob t=>?_,λw ρ Im xs m hx=>?_⟩
 .have hne : ¬q.name= "runtime.NumGoroutine" := by simpa using N
  simp[callFunc,hf,hne,hb]
 .rw[List.all_eq_true]at o;exact o _ (mw t)
 .have hxs:xs.size=args.length:=hx.1;have d:∀i,eU (bg I) i=e7 I i:=by
   intro i;clear m h o hna hci L mw;induction I with
   |nil=>rfl
   |cons p r ih=>obtain⟨k,v⟩:=p;simp only[bg,eU,e7,ih]
  refine callsIn_wide.1 (callsIn_of_wp_marks (F:=Fence.wide) (n:=0) hf hb trivial (Go.wpIn_mono ((h ⟨w,none⟩ Im ρ).run { tmps:=xs++Array.replicate (q.ntmps-xs.size) undef,defers:=[] } w ⟨ρ,Im,?_⟩) ?_))
  .exact
    {objs:=fun id ob x=>m.objs id ob (by rw[<-d];exact x),own:=fun id ob b x=>m.own id ob b (by rw[<-d];exact x),inj:=fun id E ob O b A V h3=>m.inj id E ob O b (by rw[<-d];exact A) V (by rw[<-d];exact h3),
     ocl:=λid ob x i D=>by show eU (bg I) i≠none;rw[d];exact m.ocl id ob (by rw[<-d];exact x) i D,imlt:=m.imlt,im0:=m.im0,imf:=m.imf,os:=m.os,tape:=m.tape,output:=m.output,size:=m.size,frame:=m.frame,
     pin:=λid hp=>⟨rfl,by show eU (bg I) id≠none;rw[d];exact(m.pin id hp).2⟩,lrc:=m.lrc,rnd:=m.rnd,
     slots:=λk v G=>by
      obtain⟨j,hj,G⟩:=mI args 0 k v G;simp only[Nat.zero_add]at hj;subst hj;have hlt:k<args.length:=(List.getElem?_eq_some_iff.1 G).1;refine⟨xs[k]'Z,?_,hx.2 k v _ G ν⟩;rw[Array.getElem?_append_left Z];simp
     scl:=λk v G i D=>by
      obtain⟨j,hj,G⟩:=mI args 0 k v G;show eU (bg I) i≠none;rw[d];exact bJ.2 (cH D (d7 hna v (List.mem_of_getElem? G))),
     defers:=DefOk.nil _ _ _,nt:=by simp;omega }
  .rintro e Q W ⟨B,hk,hB⟩;have S:(∃C,Ghost ⟨⟨w,none⟩,Im,I.map (·.1),ρ,q.ntmps⟩ B C/\fX T C q.results.toList (λvs=>AvLe (gJ vs) r)/\dT C.o outs)->LeavesInM Fence.wide 0 P q Q.tmps (λe W=>∃y z s,e=.returned y/\Con z s W.heap r y/\(∀i,Names i r->e7 outs i≠none)/\Mem (cG w Im I ρ 0) z s (e7 outs) W) Q.defers .returning W:=by
    rintro⟨C,hg,hres,hout⟩;obtain⟨z,s,g⟩:=hg.run Q W hB;obtain⟨vs,hle,hrun⟩:=kB (X:=⟨⟨w,none⟩,Im,I.map (·.1),ρ,q.ntmps⟩) hT _ hres;refine kY Q.defers Q W rfl g λW g=>?_;obtain⟨ys,hy,t,K⟩:=hrun z s _ W g;have ho:=il hout;refine⟨_,xq (a:={ Q with defers:=[] }) hy,_,z,s,rfl,hle.con _ _ _ _ ?_,λi D=>bJ.2 (cH D hnr),?_⟩
    .have H:ys.length=vs.length:=by simpa using t
     match vs,H,t,K with
     |[],H,t,K=>
      have:ys=[]:=List.eq_nil_of_length_eq_zero H;subst this;simp only[List.length_nil,Nat.zero_ne_one,dite_false,gJ];exact .tup [] _ t K
     |[v],H,t,K=>
      match ys,H with
      |[y],_=>
       simp only[List.length_singleton,dite_true,List.getElem_cons_zero,gJ];exact K 0 v y rfl rfl
     |u::v::vs,H,t,K=>
      rw[dif_neg (by rw[H];simp)];exact .tup _ _ t K
    .exact
      {objs:=fun id ob A=>g.objs id ob (ho id ob A),own:=fun id ob b A V h3=>g.own id ob b (ho id ob A) V h3,inj:=fun id E ob O b A V h3 h4 h5 h6=>g.inj id E ob O b (ho id ob A) V (ho E O h3) h4 h5 h6,
       ocl:=λid ob A i D=>bJ.2 (dV (hco _ (mw A)) D),imlt:=g.imlt,im0:=g.im0,imf:=g.imf,os:=g.os,tape:=g.tape,output:=g.output,size:=g.size,frame:=g.frame,
       pin:=fun id hp=>⟨(g.pin id hp).1,by
        rw[List.all_eq_true]at L;obtain⟨p,hp1,rfl⟩:=List.mem_map.1 hp;exact bJ.2 (by simpa using L p hp1)⟩,lrc:=g.lrc,rnd:=g.rnd }
   cases e with
   |normal=>exact S hk
   |ret=>exact S hk
   |_=>exact hk.elim
theorem aS{T : kb}(g : fK P T){f : FuncId}{F : Func}(c : Code)(nt : Nat)(R : List ResultVar)(j : P.funcs[f]? =some F)(hb : F.body=some c)(H : (F.name== "runtime.NumGoroutine")=false)(d : F.ntmps=nt)(e : F.results.toList=R)
  {args:List AV} {i outs:Xc} {r:AV} (a:args.length<=nt)
  (hcl:(i.all λp=>p.2.live)=true/\ka (i.map (·.1)) args=true/\gu (outs.map (·.1)) r=true/\(∀p∈i,eu (i.map (·.1)) p.2)/\(∀p∈outs,eu (outs.map (·.1)) p.2)/\(i.all λp=>(outs.map (·.1)).elem p.1)=true)
  (h:∀(w:World0) (I:Nat->Prop) (b:Loc),GoodS P ⟨w,I,i.map (·.1),b,nt⟩ c ⟨kZ 0 args,bg i⟩ (NJ T ⟨w,I,i.map (·.1),b,nt⟩ R r outs)) :
  CallSpec P f args i r outs:=by
 subst d;subst e;exact vv g j hb H a hcl h
end
theorem jH(n:Nat)(v:AV)(r:List (Nat×AV))(k:Nat):mz ((n,v)::r) k=if k=n then some v else mz r k:=by
 show(bif Nat.beq k n then _ else _)=_;rw[aJ]
theorem gN(n:Nat)(v:Option LObj)(r:Xb)(k:Nat):eU ((n,v)::r) k=if k=n then v else eU r k:=by
 show(bif Nat.beq k n then _ else _)=_;rw[aJ]
mutual
def g0(id:Nat)(ob:LObj):AV->AV
 |.osl i n=>bif Nat.beq i id then(match ob with |.arr _ sz get _=>.isl n sz get|_=>.junk)else .osl i n
 |.osub i off n sz=>bif Nat.beq i id then(match ob with |.arr _ _ get _=>.isl n sz (λk=>get (off+k))|_=>.junk)else .osub i off n sz
 |.lptr i off=>bif Nat.beq i id then(match ob with |.box cs=>.ibox cs off|_=>.junk)else .lptr i off
 |.optr i sz a j=>bif Nat.beq i id then(match ob with |.arr m sz' get _=>.eptr m sz' get a j|_=>.junk)else .optr i sz a j
 |.mref i=>bif Nat.beq i id then .junk else .mref i
 |.yld i=>bif Nat.beq i id then .junk else .yld i
 |.fn g cs=>.fn g (nb id ob cs)
 |.agg cs=>.agg (nb id ob cs)
 |.tup cs=>.tup (nb id ob cs)
 |v=>v
def nb(id:Nat)(ob:LObj):List AV->List AV
 |[]=>[]
 |c::cs=>g0 id ob c::nb id ob cs
end
mutual
def frzC(id:Nat)(ob:LObj):AV->Prop
 |.osl i n=>match Nat.beq i id,ob with |true,.arr m _ _ _=>n<=m|_,_=>True
 |.osub i off n sz=>match Nat.beq i id,ob with |true,.arr m sz' _ _=>n≠0/\off+n<=m/\sz'=sz|_,_=>True
 |.optr i sz a _=>match Nat.beq i id,ob with |true,.arr m sz' _ _=>a<m/\sz'=sz|_,_=>True
 |.fn _ cs=>o7 id ob cs
 |.agg cs=>o7 id ob cs
 |.tup cs=>o7 id ob cs
 |_=>True
def o7(id:Nat)(ob:LObj):List AV->Prop
 |[]=>True
 |c::cs=>frzC id ob c/\o7 id ob cs
end
theorem d8(id:Nat)(ob:LObj):∀cs:List AV,(nb id ob cs).length=cs.length
 |[]=>rfl
 |c::cs=>by simp[nb,d8 id ob cs]
theorem iC(id:Nat)(ob:LObj):∀(cs:List AV) (i:Nat),(nb id ob cs)[i]? =(cs[i]?).map (g0 id ob)
 |[],i=>by simp[nb]
 |c::cs,0=>by simp[nb]
 |c::cs,i+1=>by simp[nb,iC id ob cs i]
theorem oP{id:Nat}{ob:LObj}:∀{cs:List AV},o7 id ob cs->∀c∈cs,frzC id ob c
 |[],_,c,H=>by simp at H
 |d::ds,h,c,H=>by
  rcases List.mem_cons.1 H with rfl|H
  .exact h.1
  .exact oP h.2 c H
section
variable {ρ:Loc} {Im:Nat->Prop} {H:eZ}
mutual
theorem oQ:∀(v:AV) (x:Value),gu [] v=true->Con ρ Im H v x->ConI Im H v x
 |.lptr id off,x,hn,_=>by simp[gu]at hn
 |.osl id n,x,hn,_=>by simp[gu]at hn
 |.osub id off n sz,x,hn,_=>by simp[gu]at hn
 |.optr id sz i j,x,hn,_=>by simp[gu]at hn
 |.mref id,x,hn,_=>by simp[gu]at hn
 |.yld id,x,hn,_=>by simp[gu]at hn
 |.fn g cs,x,hn,h=>by
  simp only[gu]at hn;cases h with
  |imm _ _ hi=>exact hi
  |fn _ _ X a c=>exact .fn g cs X a (zm cs X hn a c)
 |.agg cs,x,hn,h=>by
  simp only[gu]at hn;obtain⟨X,rfl,a,c⟩:=h.agg_inv;exact .agg cs X a (zm cs X hn a c)
 |.tup cs,x,hn,h=>by
  simp only[gu]at hn;obtain⟨X,rfl,a,c⟩:=h.tup_inv;exact .tup cs X a (zm cs X hn a c)
 |.int k n,x,_,h=>by cases h with |imm _ _ hi=>exact hi
 |.bool b,x,_,h=>by cases h with |imm _ _ hi=>exact hi
 |.str s,x,_,h=>by cases h with |imm _ _ hi=>exact hi
 |.junk,x,_,h=>.junk x
 |.isl n sz g,x,_,h=>by cases h with |imm _ _ hi=>exact hi
 |.icap n sz g,x,_,h=>by cases h with |imm _ _ hi=>exact hi
 |.eptr n sz g i j,x,_,h=>by cases h with |imm _ _ hi=>exact hi
 |.ibox cs off,x,_,h=>by cases h with |imm _ _ hi=>exact hi
 |.nils,x,_,h=>by cases h with |imm _ _ hi=>exact hi
 |.emp,x,_,h=>by cases h with |imm _ _ hi=>exact hi
 |.niface,x,_,h=>by cases h with |imm _ _ hi=>exact hi
 |.nfunc,x,_,h=>by cases h with |imm _ _ hi=>exact hi
 |.nptr,x,_,h=>by cases h with |imm _ _ hi=>exact hi
 |.nmap,x,_,h=>by cases h with |imm _ _ hi=>exact hi
 |.iface t v,x,_,h=>by cases h with |imm _ _ hi=>exact hi
theorem zm:∀(cs:List AV) (X:Array Value),ka [] cs=true->X.size=cs.length->(∀(i:Nat) (c:AV) (x:Value),cs[i]? =some c->X[i]? =some x->Con ρ Im H c x)->
  ∀(i:Nat) (c:AV) (x:Value),cs[i]? =some c->X[i]? =some x->ConI Im H c x
 |[],_,_,_,_,i,c,x,h,_=>by simp at h
 |d::ds,X,hn,hl,hc,0,c,x,h,hx=>by
  simp only[ka,Bool.and_eq_true]at hn;simp at h;subst h;exact oQ d x hn.1 (hc 0 d x ν hx)
 |d::ds,X,hn,hl,hc,i+1,c,x,h,hx=>by
  simp only[ka,Bool.and_eq_true]at hn;refine zm ds (X.extract 1 X.size) hn.2 (by simp at hl⊢;omega) (λj C e b a=>hc (j+1) C e (by simpa using b) ?_) i c x (by simpa using h) ?_
  .simp only[Array.getElem?_extract]at a;split at a
   .rw[Nat.add_comm];exact a
   .cases a
  .simp only[Array.getElem?_extract];have:i+1<X.size:=(Array.getElem?_eq_some_iff.1 hx).1;rw[if_pos Z,Nat.add_comm];exact hx
end
def H4(ob:LObj):Prop:=match ob with
 |.box cs=>ka [] cs=true
 |.arr n _ get _=>∀i,i<n->ka [] (get i)=true
 |_=>False
mutual
theorem fY{id:Nat}{ob:LObj}(y:ObjCon ρ Im H id ob)(f:H4 ob):∀(v:AV) (x:Value),frzC id ob v->Con ρ Im H v x->Con ρ (λb=>Im b\/(ρ id).1=some b) H (g0 id ob v) x
 |.lptr i off,x,_,h=>by
  cases h with
  |imm _ _ hi=>cases hi
  |lptr _ _ b hb=>
   simp only[g0,aJ];split
   .rename_i e;subst e;cases y with
    |box cells b' X T hρ hh d=>
     rw[hb]at hρ;cases hρ;refine .imm _ _ (.ibox cells off b X T (0,0) (.inr hb) hh d.1 λj c x o r=>?_);exact(oQ c x (d7 f c (List.mem_of_getElem? o)) (d.2 j c x o r)).mono (λb hb=>.inl hb) λb _=>rfl
    |_=>exact .imm _ _ (.junk _)
   .exact .lptr i off b hb
 |.osl i n,x,hcc,h=>by
  cases h with
  |imm _ _ hi=>cases hi
  |osl _ _ o r h3=>
   simp only[g0,aJ];split
   .rename_i e;subst e;simp only[frzC,Nat.beq_refl]at hcc;cases y with
    |arr0 sz get T hρ=>
     simp only at hcc⊢;have:n=0:=Z;subst this;rw[hρ];exact .imm _ _ (.isl0 sz get _)
    |arr m sz get T b X hρ hh hn hcap hxs hbd hsz d=>
     simp only at hcc⊢;have E:((ρ i).1.map λb=>(⟨b,0,none⟩:Addr))=some ⟨b,0,none⟩:=by rw[hρ];rfl
     rw[E];have w:n*sz<=(ρ i).2*sz:=Nat.mul_le_mul_right _ h3;refine .imm _ _ (.isl n sz get b 0 _ X T (0,0) (.inr hρ) hh (λj B=>hsz j Z) h3 (tj o) Z λj q c x B u z=>?_);exact(oQ c x (d7 (f j Z) c (List.mem_of_getElem? u)) (d j q c x Z u (by simpa using z))).mono (λb hb=>.inl hb) λb _=>rfl
    |_=>exact .imm _ _ (.junk _)
   .exact .osl i n o r h3
 |.osub i off n sz,x,hcc,h=>by
  cases h with
  |imm _ _ hi=>cases hi
  |osub _ _ _ _ cap p o r h3=>
   simp only[g0,aJ];split
   .rename_i e;subst e;simp only[frzC,Nat.beq_refl]at hcc;cases y with
    |arr0 sz' get T hρ=>simp only at hcc;omega
    |arr m sz' get T b' X hρ hh hn hcap hxs hbd hsz d=>
     simp only at hcc⊢;obtain⟨C,A,rfl⟩:=hcc;obtain⟨b,hb,rfl⟩:=r C;rw[hb]at hρ;cases hρ;have w:(off+n)*sz'<=(ρ i).2*sz':=Nat.mul_le_mul_right _ Z;rw[Nat.add_mul]at w;refine .imm _ _ (.isl n sz' (λk=>get (off+k)) b' (off*sz') _ X T (0,0) (.inr hb) hh (λj B=>hsz _ Z) h3 (tj o) Z λj q c x B u z=>?_);refine(oQ c x (d7 (f (off+j) Z) c (List.mem_of_getElem? u)) (d (off+j) q c x Z u ?_)).mono (λb hb=>.inl hb) λb _=>rfl;rw[<-z];congr 1;rw[Nat.add_mul]
    |_=>exact .imm _ _ (.junk _)
   .exact .osub i off n sz cap p o r h3
 |.optr i sz a j,x,hcc,h=>by
  cases h with
  |imm _ _ hi=>cases hi
  |optr _ _ _ _ b hb=>
   simp only[g0,aJ];split
   .rename_i e;subst e;simp only[frzC,Nat.beq_refl]at hcc;cases y with
    |arr0 sz' get T hρ=>rw[hρ]at hb;cases hb
    |arr m sz' get T b' X hρ hh hn hcap hxs hbd hsz d=>
     simp only at hcc⊢;obtain⟨A,rfl⟩:=hcc;rw[hb]at hρ;cases hρ;have w:m*sz'<=(ρ i).2*sz':=Nat.mul_le_mul_right _ hn;have:=ConI.eptr (Im:=fun b=>Im b \/ (ρ i).1 = some b) (H:=H) m sz' get a j b 0 X T (0,0) (.inr hb) hh (fun q hq=>hsz q hq) Z (fun q p c x hq u z=>
      (oQ c x (d7 (f q hq) c (List.mem_of_getElem? u)) (d q p c x hq u (by simpa using z))).mono (λb hb=>.inl hb) λb _=>rfl) A
     rw[Nat.zero_add]at this;exact .imm _ _ this
    |_=>exact .imm _ _ (.junk _)
   .exact .optr i sz a j b hb
 |.mref i,x,_,h=>by
  simp only[g0,aJ];split
  .exact .imm _ _ (.junk _)
  .cases h with
   |imm _ _ hi=>cases hi
   |mref _ b hb=>exact .mref i b hb
 |.yld i,x,_,h=>by
  simp only[g0,aJ];split
  .exact .imm _ _ (.junk _)
  .cases h with
   |imm _ _ hi=>cases hi
   |yld _ b hb=>exact .yld i b hb
 |.fn g cs,x,hcc,h=>by
  simp only[g0];have:∃X,x=.func (.func g) #[] X/\Cons ρ Im H cs X:=by
   cases h with
   |imm _ _ hi=>
    cases hi with
    |fn _ _ X l d=>exact⟨X,rfl,l,λi c x o r=>.imm _ _ (d i c x o r)⟩
   |fn _ _ X l d=>exact⟨X,rfl,l,d⟩
  obtain⟨X,rfl,l,d⟩:=this;exact .fn g _ X (by rw[l,d8]) (s4 y f cs X hcc l d)
 |.agg cs,x,hcc,h=>by
  simp only[g0];obtain⟨X,rfl,l,d⟩:=h.agg_inv;exact .agg _ X (by rw[l,d8]) (s4 y f cs X hcc l d)
 |.tup cs,x,hcc,h=>by
  simp only[g0];obtain⟨X,rfl,l,d⟩:=h.tup_inv;exact .tup _ X (by rw[l,d8]) (s4 y f cs X hcc l d)
 |.int k n,x,_,h=>h.mono (λb hb=>.inl hb) λb _=>rfl
 |.bool b,x,_,h=>h.mono (λb hb=>.inl hb) λb _=>rfl
 |.str s,x,_,h=>h.mono (λb hb=>.inl hb) λb _=>rfl
 |.junk,x,_,h=>.imm _ _ (.junk x)
 |.isl n sz g,x,_,h=>h.mono (λb hb=>.inl hb) λb _=>rfl
 |.icap n sz g,x,_,h=>h.mono (λb hb=>.inl hb) λb _=>rfl
 |.eptr n sz g i j,x,_,h=>h.mono (λb hb=>.inl hb) λb _=>rfl
 |.ibox cs off,x,_,h=>h.mono (λb hb=>.inl hb) λb _=>rfl
 |.nils,x,_,h=>h.mono (λb hb=>.inl hb) λb _=>rfl
 |.emp,x,_,h=>h.mono (λb hb=>.inl hb) λb _=>rfl
 |.niface,x,_,h=>h.mono (λb hb=>.inl hb) λb _=>rfl
 |.nfunc,x,_,h=>h.mono (λb hb=>.inl hb) λb _=>rfl
 |.nptr,x,_,h=>h.mono (λb hb=>.inl hb) λb _=>rfl
 |.nmap,x,_,h=>h.mono (λb hb=>.inl hb) λb _=>rfl
 |.iface t v,x,_,h=>h.mono (λb hb=>.inl hb) λb _=>rfl
theorem s4{id:Nat}{ob:LObj}(f:ObjCon ρ Im H id ob)(a:H4 ob):∀(cs:List AV) (X:Array Value),o7 id ob cs->X.size=cs.length->(∀(i:Nat) (c:AV) (x:Value),cs[i]? =some c->X[i]? =some x->Con ρ Im H c x)->
  ∀(i:Nat) (c:AV) (x:Value),(nb id ob cs)[i]? =some c->X[i]? =some x->Con ρ (λb=>Im b\/(ρ id).1=some b) H c x
 |[],_,_,_,_,i,c,x,h,_=>by simp[nb]at h
 |d::ds,X,hcc,hl,hc,0,c,x,h,hx=>by
  simp[nb]at h;subst h;exact fY f a d x hcc.1 (hc 0 d x ν hx)
 |d::ds,X,hcc,hl,hc,i+1,c,x,h,hx=>by
  refine s4 f a ds (X.extract 1 X.size) hcc.2 (by simp at hl⊢;omega) (λj C k g e=>hc (j+1) C k (by simpa using g) ?_) i c x (by simpa[nb]using h) ?_
  .simp only[Array.getElem?_extract]at e;split at e
   .rw[Nat.add_comm];exact e
   .cases e
  .simp only[Array.getElem?_extract];have:i+1<X.size:=(Array.getElem?_eq_some_iff.1 hx).1;rw[if_pos Z,Nat.add_comm];exact hx
end
end
theorem io{id:Nat}{ob:LObj}(k:H4 ob):∀{v:AV} {i:Nat},Names i (g0 id ob v)->Names i v/\i≠id:=by
 intro v i h;generalize hu:g0 id ob v=u at h;induction h generalizing v with
 |lptr off=>
  cases v<;>simp only[g0,aJ]at hu<;>first|(split at hu<;>first|(cases ob<;>simp at hu;done)|(simp at hu;done)|skip)|(simp at hu;done)|skip
  all_goals(simp only[AV.lptr.injEq]at hu;obtain⟨rfl,rfl⟩:=hu;exact⟨.lptr _,by assumption⟩)
 |osl n=>
  cases v<;>simp only[g0,aJ]at hu<;>first|(split at hu<;>first|(cases ob<;>simp at hu;done)|(simp at hu;done)|skip)|(simp at hu;done)|skip
  all_goals(simp only[AV.osl.injEq]at hu;obtain⟨rfl,rfl⟩:=hu;exact⟨.osl _,by assumption⟩)
 |osub off n sz=>
  cases v<;>simp only[g0,aJ]at hu<;>first|(split at hu<;>first|(cases ob<;>simp at hu;done)|(simp at hu;done)|skip)|(simp at hu;done)|skip
  all_goals(simp only[AV.osub.injEq]at hu;obtain⟨rfl,rfl,rfl,rfl⟩:=hu;exact⟨.osub _ _ _,by assumption⟩)
 |optr sz a j=>
  cases v<;>simp only[g0,aJ]at hu<;>first|(split at hu<;>first|(cases ob<;>simp at hu;done)|(simp at hu;done)|skip)|(simp at hu;done)|skip
  all_goals(simp only[AV.optr.injEq]at hu;obtain⟨rfl,rfl,rfl,rfl⟩:=hu;exact⟨.optr _ _ _,by assumption⟩)
 |mref=>
  cases v<;>simp only[g0,aJ]at hu<;>first|(split at hu<;>first|(cases ob<;>simp at hu;done)|(simp at hu;done)|skip)|(simp at hu;done)|skip
  all_goals(simp only[AV.mref.injEq]at hu;subst hu;exact⟨.mref,by assumption⟩)
 |yld=>
  cases v<;>simp only[g0,aJ]at hu<;>first|(split at hu<;>first|(cases ob<;>simp at hu;done)|(simp at hu;done)|skip)|(simp at hu;done)|skip
  all_goals(simp only[AV.yld.injEq]at hu;subst hu;exact⟨.yld,by assumption⟩)
 |fn f caps c hm _ ih=>
  cases v<;>simp only[g0,aJ]at hu<;>first|(split at hu<;>first|(cases ob<;>simp at hu;done)|(simp at hu;done)|skip)|(simp at hu;done)|skip
  all_goals
   simp only[AV.fn.injEq]at hu;obtain⟨rfl,rfl⟩:=hu;obtain⟨j,H⟩:=List.mem_iff_getElem?.1 hm;rw[iC]at H;obtain⟨d,g,rfl⟩:=Option.map_eq_some_iff.1 H;obtain⟨b,e⟩:=ih rfl;exact⟨.fn _ _ d (List.mem_of_getElem? g) b,e⟩
 |agg cs c hm _ ih=>
  cases v<;>simp only[g0,aJ]at hu<;>first|(split at hu<;>first|(cases ob<;>simp at hu;done)|(simp at hu;done)|skip)|(simp at hu;done)|skip
  all_goals
   simp only[AV.agg.injEq]at hu;subst hu;obtain⟨j,H⟩:=List.mem_iff_getElem?.1 hm;rw[iC]at H;obtain⟨d,g,rfl⟩:=Option.map_eq_some_iff.1 H;obtain⟨b,e⟩:=ih rfl;exact⟨.agg _ d (List.mem_of_getElem? g) b,e⟩
 |tup cs c hm _ ih=>
  cases v<;>simp only[g0,aJ]at hu<;>first|(split at hu<;>first|(cases ob<;>simp at hu;done)|(simp at hu;done)|skip)|(simp at hu;done)|skip
  all_goals
   simp only[AV.tup.injEq]at hu;subst hu;obtain⟨j,H⟩:=List.mem_iff_getElem?.1 hm;rw[iC]at H;obtain⟨d,g,rfl⟩:=Option.map_eq_some_iff.1 H;obtain⟨b,e⟩:=ih rfl;exact⟨.tup _ d (List.mem_of_getElem? g) b,e⟩
def KH(id:Nat)(ob:LObj):LObj->LObj
 |.box cs=>.box (nb id ob cs)
 |.arr n sz get T=>.arr n sz (λi=>nb id ob (get i)) T
 |.map kvs=>.map (kvs.map λp=>(g0 id ob p.1,g0 id ob p.2))
 |.lrec st pe ks cs ps assign body nt=>.lrec st pe ks (nb id ob cs) ps assign body nt
 |.dead=>.dead
def Ih(id:Nat)(ob:LObj):LObj->Prop
 |.box cs=>o7 id ob cs
 |.arr n _ get _=>∀i,i<n->o7 id ob (get i)
 |.map kvs=>∀k v,(k,v)∈kvs->frzC id ob k/\frzC id ob v
 |.lrec _ _ _ cs _ _ _ _=>o7 id ob cs
 |.dead=>True
theorem vw(id:Nat)(ob u:LObj):(KH id ob u).live=u.live:=by cases u<;>rfl
theorem nV{ρ:Loc}{Im:Nat->Prop}{H:eZ}{id:Nat}{ob:LObj}(m:ObjCon ρ Im H id ob)(a:H4 ob){j:Nat}{u:LObj}(o:Ih id ob u)(h:ObjCon ρ Im H j u):ObjCon ρ (λb=>Im b\/(ρ id).1=some b) H j (KH id ob u):=by
 cases h with
 |dead=>exact .dead
 |box cells b xs T h1 h2 h3=>exact .box _ b xs T h1 h2 ⟨by rw[h3.1,d8],s4 m a cells xs o h3.1 h3.2⟩
 |arr0 sz get T h1=>exact .arr0 sz _ T h1
 |arr n sz get T b xs h1 h2 h3 h4 f g h7 h8=>
  refine .arr n sz _ T b xs h1 h2 h3 h4 f g (λi s=>by rw[d8];exact h7 i s) λi q c x s y t=>?_;rw[iC]at y;obtain⟨d,l,rfl⟩:=Option.map_eq_some_iff.1 y;exact fY m a d x (oP (o i s) d (List.mem_of_getElem? l)) (h8 i q d x s l t)
 |map kvs b es clock h1 h2 h3 h4=>
  refine .map _ b es clock h1 h2 (by rw[h3];simp) λi k v e f g=>?_;simp only[List.getElem?_map]at f;obtain⟨p,B,z⟩:=Option.map_eq_some_iff.1 f;simp only[Prod.mk.injEq]at z;obtain⟨rfl,rfl⟩:=z;have A:=o p.1 p.2 (List.mem_of_getElem? B);have:=h4 i p.1 p.2 e B g;exact⟨fY m a _ _ A.1 this.1,fY m a _ _ A.2 this.2⟩
 |lrec st pe ks cs ps assign body nt b r h1 h2 h3 h4=>
  refine .lrec st pe ks _ ps assign body nt b r h1 h2 { h3 with len:=by rw[h3.len,d8] } λi k c f g=>?_;rw[iC]at g;obtain⟨d,l,rfl⟩:=Option.map_eq_some_iff.1 g;obtain⟨x,C,w⟩:=h4 i k d f l;exact⟨x,C,fY m a d x (oP o d (List.mem_of_getElem? l)) w⟩
theorem AO{id:Nat}{ob:LObj}(H:H4 ob){u:LObj}{i:Nat}(h:NamesO i (KH id ob u)):NamesO i u/\i≠id:=by
 have m:∀{cs:List AV} {c:AV},c∈nb id ob cs->∃d∈cs,c=g0 id ob d:=by
  intro cs c a;obtain⟨j,l⟩:=List.mem_iff_getElem?.1 a;rw[iC]at l;obtain⟨d,f,rfl⟩:=Option.map_eq_some_iff.1 l;exact⟨d,List.mem_of_getElem? f,rfl⟩
 cases u with
 |dead=>cases h
 |box cs=>
  cases h with
  |box _ c a hn=>
   obtain⟨d,f,rfl⟩:=m a;obtain⟨b,e⟩:=io H hn;exact⟨.box _ d f b,e⟩
 |arr n sz get T=>
  cases h with
  |arr _ _ _ _ j c l a hn=>
   obtain⟨d,f,rfl⟩:=m a;obtain⟨b,e⟩:=io H hn;exact⟨.arr _ _ _ _ j d l f b,e⟩
 |map kvs=>
  cases h with
  |mapK _ k v a hn=>
   obtain⟨p,o,g⟩:=List.mem_map.1 a;simp only[Prod.mk.injEq]at g;obtain⟨rfl,rfl⟩:=g;obtain⟨b,e⟩:=io H hn;exact⟨.mapK _ p.1 p.2 o b,e⟩
  |mapV _ k v a hn=>
   obtain⟨p,o,g⟩:=List.mem_map.1 a;simp only[Prod.mk.injEq]at g;obtain⟨rfl,rfl⟩:=g;obtain⟨b,e⟩:=io H hn;exact⟨.mapV _ p.1 p.2 o b,e⟩
 |lrec st pe ks cs ps assign body nt=>
  cases h with
  |lrec _ _ _ _ _ _ _ _ c a hn=>
   obtain⟨d,f,rfl⟩:=m a;obtain⟨b,e⟩:=io H hn;exact⟨.lrec _ _ _ _ _ _ _ _ d f b,e⟩
def KP(id:Nat)(ob:LObj):List (Nat×AV)->List (Nat×AV)
 |[]=>[]
 |(k,v)::r=>(k,g0 id ob v)::KP id ob r
def xr(id:Nat)(ob:LObj):Xb->Xb
 |[]=>[]
 |(j,u)::r=>(j,bif Nat.beq j id then none else(match u with |some u=>some (KH id ob u)|none=>none))::xr id ob r
def rh(id:Nat)(ob:LObj):List (Nat×AV)->Prop
 |[]=>True
 |(_,v)::r=>frzC id ob v/\rh id ob r
def jf(id:Nat)(ob:LObj):Xb->Prop
 |[]=>True
 |(_,some u)::r=>Ih id ob u/\jf id ob r
 |(_,none)::r=>jf id ob r
theorem t6{id:Nat}{ob:LObj}:∀{l:List (Nat×AV)} {k:Nat} {v:AV},mz (KP id ob l) k=some v->∃u,mz l k=some u/\v=g0 id ob u
 |[],k,v,h=>by simp[KP,mz]at h
 |(k0,u0)::r,k,v,h=>by
  simp only[KP,mz,aJ]at h⊢;split at h
  .rename_i H;rw[if_pos H];simp only[Option.some.injEq]at h;exact⟨u0,rfl,h.symm⟩
  .rename_i H;rw[if_neg H];exact t6 h
theorem vx{id:Nat}{ob:LObj}:∀{l:List (Nat×AV)} {k:Nat} {u:AV},rh id ob l->mz l k=some u->frzC id ob u
 |[],k,u,_,h=>by simp[mz]at h
 |(k0,u0)::r,k,u,hc,h=>by
  simp only[mz,aJ]at h;split at h
  .simp only[Option.some.injEq]at h;subst h;exact hc.1
  .exact vx hc.2 h
theorem oR{id:Nat}{ob:LObj}:∀{l:Xb} {j:Nat},eU (xr id ob l) j=if j=id then none else(eU l j).map (KH id ob)
 |[],j=>by simp[xr,eU]
 |(j0,u0)::r,j=>by
  simp only[xr,eU,aJ];by_cases h:j=j0
  .subst h;simp only[if_true];split
   .rfl
   .cases u0<;>rfl
  .simp only[h,if_false];exact oR
theorem mJ{id:Nat}{ob:LObj}:∀{l:Xb} {j:Nat} {u:LObj},jf id ob l->eU l j=some u->Ih id ob u
 |[],j,u,_,h=>by simp[eU]at h
 |(j0,some u0)::r,j,u,hc,h=>by
  simp only[eU,aJ]at h;split at h
  .simp only[Option.some.injEq]at h;subst h;exact hc.1
  .exact mJ hc.2 h
 |(j0,none)::r,j,u,hc,h=>by
  simp only[eU,aJ]at h;split at h
  .cases h
  .exact mJ (l:=r) hc h
def St.frz(A:St)(id:Nat)(ob:LObj):St:=⟨KP id ob A.env,xr id ob A.objs⟩
theorem ll{X:Frm}{A:St}(id:Nat){ob:LObj}(o:eU A.objs id=some ob)(z:X.pid.elem id=false)(m:H4 ob)(S:rh id ob A.env)(I:jf id ob A.objs):Ghost X A (A.frz id ob):=by
 refine⟨?_⟩;rintro a w ⟨ρ,Im,H⟩;have s:=H.objs id ob o;have c:ob.live=true:=by cases ob<;>first|rfl|exact m.elim
 have y:∀j u,(A.frz id ob).o j=some u->j≠id/\∃d,A.o j=some d/\u=KH id ob d:=by
  intro j u h;have h:eU (xr id ob A.objs) j=some u:=h;rw[oR]at h;split at h
  .cases h
  .rename_i g;obtain⟨d,l,f⟩:=Option.map_eq_some_iff.1 h;exact⟨g,d,l,f.symm⟩
 have p:∀j,A.o j≠none->j≠id->(A.frz id ob).o j≠none:=by
  intro j h g;show eU (xr id ob A.objs) j≠none;rw[oR,if_neg g];obtain⟨u,t⟩:=Option.ne_none_iff_exists'.1 h;rw[show eU A.objs j=some u from t];simp
 refine ⟨ρ,fun b=>Im b\/(ρ id).1=some b,
  {objs:=fun j u g=>?_,own:=fun j u b g G hb=>?_,inj:=fun j O u u' b l f C N P Q=>?_,ocl:=fun j u g i q=>?_,imlt:=fun b hb=>?_,im0:=fun b hb=>.inl (H.im0 b hb),imf:=fun b hb=>?_,
   os:=H.os,tape:=H.tape,output:=H.output,size:=H.size,frame:=H.frame,pin:=λj g=>?_,slots:=λk v K=>?_,scl:=λk v K i q=>?_,nt:=H.nt,lrc:=H.lrc,rnd:=H.rnd,
   defers:=H.defers.mono (λ_ _=>rfl) λD R V q=>q.elim V λF=>(s.noSys c F).1 _ R }⟩
 .obtain⟨_,d,n,rfl⟩:=y j u g;exact nV s m (mJ I n) (H.objs j d n)
 .obtain⟨r,d,n,rfl⟩:=y j u g;rw[vw]at G;obtain⟨l,f,C⟩:=H.own j d b n G hb;exact⟨λq=>q.elim l λF=>r (H.inj j id d ob b n G o c hb F),f,C⟩
 .obtain⟨_,d,n,rfl⟩:=y j u l;obtain⟨_,L,B,rfl⟩:=y O u' C;rw[vw]at f N;exact H.inj j O d L b n f B N P Q
 .obtain⟨_,d,n,rfl⟩:=y j u g;obtain⟨l,f⟩:=AO m q;exact p i (H.ocl j d n i l) f
 .rcases hb with hb|hb
  .exact H.imlt b hb
  .exact(H.own id ob b o c hb).2.1
 .rcases hb with hb|hb
  .exact H.imf b hb
  .rcases(H.own id ob b o c hb).2.2 with h|h
   .exact .inr (.inl h)
   .rw[List.elem_eq_true_of_mem h]at z;cases z
 .have r:j≠id:=λe=>by subst e;rw[List.elem_eq_true_of_mem g]at z;cases z
  obtain⟨l,f⟩:=H.pin j g;exact⟨l,p j f r⟩
 .obtain⟨u,t,rfl⟩:=t6 K;obtain⟨x,W,E⟩:=H.slots k u t;exact⟨x,W,fY s m u x (vx S t) E⟩
 .obtain⟨u,t,rfl⟩:=t6 K;obtain⟨l,f⟩:=io m q;exact p i (H.scl k u t i l) f
section
variable {P:Program} {X:Frm}
theorem jI{c:Code}{A:St}{K:Exit->St->Prop}(id:Nat){ob:LObj}(a:eU A.objs id=some ob)(e:X.pid.elem id=false)(H:H4 ob)(d:rh id ob A.env)(b:jf id ob A.objs)
  (h:GoodS P X c (A.frz id ob) K):GoodS P X c A K:=im (ll id a e H d b) h
theorem bQ{A:St}(k id sz T:Nat)(G:mz A.env k=some .nils)(B:eU A.objs id=none)(K:X.pid.elem id=false):Ghost X A ⟨(k,.osl id 0)::A.env,(id,some (.arr 0 sz (λ_=>[]) T))::A.objs⟩:=by
 refine⟨?_⟩;rintro a w ⟨ρ,Im,d⟩;have s:∀j,A.o j≠none->j≠id:=λj h e=>h (by rw[e];exact B);have g:∀j,A.o j≠none->(ρ.set id (none,0)) j=ρ j:=λj h=>Loc.set_ne _ _ (s j h);have r:∀j,eU ((id,some (.arr 0 sz (λ_=>[]) T))::A.objs) j=if j=id then some (.arr 0 sz (λ_=>[]) T)else A.o j:=by
  intro j;exact gN _ _ _ _
 have n:∀j,A.o j≠none->eU ((id,some (.arr 0 sz (λ_=>[]) T))::A.objs) j≠none:=by
  intro j h;rw[r,if_neg (s j h)];exact h
 refine ⟨ρ.set id (none,0),Im,
  {objs:=fun j u c=>?_,own:=fun j u b c I hb=>?_,inj:=fun j D u E b m t p F y z=>?_,ocl:=fun j u c i l=>?_,imlt:=d.imlt,im0:=d.im0,imf:=d.imf,
   os:=d.os,tape:=d.tape,output:=d.output,size:=d.size,frame:=d.frame,pin:=λj c=>?_,slots:=λq v f=>?_,scl:=λq v f i l=>?_,defers:=d.defers,nt:=d.nt,lrc:=d.lrc,rnd:=d.rnd }⟩
 .replace c:eU ((id,some (.arr 0 sz (λ_=>[]) T))::A.objs) j=some u:=c
  rw[r]at c;split at c
  .rename_i e;subst e;cases c;exact .arr0 _ _ _ (Loc.set_same _ _ _)
  .exact(d.objs j u c).move (λb hb=>hb) (λ_ _=>rfl) (λ_ _=>rfl) (g j (by rw[c];simp)) λi l=>g i (d.ocl j u c i l)
 .replace c:eU ((id,some (.arr 0 sz (λ_=>[]) T))::A.objs) j=some u:=c
  rw[r]at c;split at c
  .rename_i e;subst e;rw[Loc.set_same]at hb;cases hb
  .rw[g j (by rw[c];simp)]at hb;exact d.own j u b c I hb
 .replace m:eU ((id,some (.arr 0 sz (λ_=>[]) T))::A.objs) j=some u:=m
  replace p:eU ((id,some (.arr 0 sz (λ_=>[]) T))::A.objs) D=some E:=p
  rw[r]at m p;split at m
  .rename_i e;subst e;rw[Loc.set_same]at y;cases y
  .split at p
   .rename_i e;subst e;rw[Loc.set_same]at z;cases z
   .rw[g j (by rw[m];simp)]at y;rw[g D (by rw[p];simp)]at z;exact d.inj j D u E b m t p F y z
 .replace c:eU ((id,some (.arr 0 sz (λ_=>[]) T))::A.objs) j=some u:=c
  rw[r]at c;split at c
  .simp only[Option.some.injEq]at c;subst c;cases l with
   |arr _ _ _ _ _ _ hlt=>omega
  .exact n i (d.ocl j u c i l)
 .obtain⟨m,t⟩:=d.pin j c;exact⟨by rw[g j t];exact m,n j t⟩
 .replace f:mz ((k,.osl id 0)::A.env) q=some v:=f
  rw[jH]at f;split at f
  .rename_i e;subst e;cases f;obtain⟨x,C,o⟩:=d.slots q _ G;cases o.nils_inv;refine⟨_,C,?_⟩;have:=Con.osl (ρ:=ρ.set id (none,0)) (Im:=Im) (H:=w.heap) id 0 (χ _) (λh=>absurd rfl h) (χ _);rw[Loc.set_same]at this;exact this
  .obtain⟨x,C,o⟩:=d.slots q v f;exact⟨x,C,o.reloc λi l=>g i (d.scl q v f i l)⟩
 .replace f:mz ((k,.osl id 0)::A.env) q=some v:=f
  rw[jH]at f;split at f
  .simp only[Option.some.injEq]at f;subst f;cases l;show eU ((id,some (.arr 0 sz (λ_=>[]) T))::A.objs) id≠none;rw[r,if_pos rfl];simp
  .exact n i (d.scl q v f i l)
theorem jJ{c:Code}{A:St}{K:Exit->St->Prop}(k id sz T:Nat)(a:mz A.env k=some .nils)(H:eU A.objs id=none)(b:X.pid.elem id=false)
  (h:GoodS P X c ⟨(k,.osl id 0)::A.env,(id,some (.arr 0 sz (λ_=>[]) T))::A.objs⟩ K):GoodS P X c A K:=im (bQ k id sz T a H b) h
end
theorem mK{X:Frm}{A:St}(B I id sz T:Nat){cs:List AV}(hb:eU A.objs B=some (.box cs))(K:cs[I]? =some .nils)(D:eU A.objs id=none)(hp:X.pid.elem id=false) :
  Ghost X A ⟨A.env,(B,some (.box (cs.set I (.osl id 0))))::(id,some (.arr 0 sz (λ_=>[]) T))::A.objs⟩:=by
 refine⟨?_⟩;rintro a w ⟨ρ,Im,d⟩;have P:B≠id:=λe=>by rw[e,D]at hb;cases hb
 have F:∀j,A.o j≠none->j≠id:=λj h e=>h (by rw[e];exact D);have o:∀j,A.o j≠none->(ρ.set id (none,0)) j=ρ j:=λj h=>Loc.set_ne _ _ (F j h);have O:∀j,eU ((B,some (.box (cs.set I (.osl id 0))))::(id,some (.arr 0 sz (λ_=>[]) T))::A.objs) j=if j=B then some (.box (cs.set I (.osl id 0)))else if j=id then some (.arr 0 sz (λ_=>[]) T)else A.o j:=by
  intro j;rw[gN,gN];rfl
 have z:A.o B≠none:=by show eU A.objs B≠none;rw[hb];simp
 have r:∀j,A.o j≠none->eU ((B,some (.box (cs.set I (.osl id 0))))::(id,some (.arr 0 sz (λ_=>[]) T))::A.objs) j≠none:=by
  intro j h;rw[O];split
  .simp
  .rw[if_neg (F j h)];exact h
 have p:∀{j:Nat} {u:LObj},eU ((B,some (.box (cs.set I (.osl id 0))))::(id,some (.arr 0 sz (λ_=>[]) T))::A.objs) j=some u->(j=B/\u=.box (cs.set I (.osl id 0)))\/(j=id/\u=.arr 0 sz (λ_=>[]) T)\/(j≠B/\j≠id/\A.o j=some u):=by
  intro j u h;rw[O]at h;split at h
  .rename_i e;cases h;exact .inl ⟨e,rfl⟩
  .split at h
   .rename_i e;cases h;exact .inr (.inl ⟨e,rfl⟩)
   .rename_i e1 e2;exact .inr (.inr ⟨e1,e2,h⟩)
 have Q:=d.objs B _ hb;have l:∀{j:Nat} {u:LObj},eU ((B,some (.box (cs.set I (.osl id 0))))::(id,some (.arr 0 sz (λ_=>[]) T))::A.objs) j=some u->u.live=true->∀b,((ρ.set id (none,0)) j).1=some b->∃y,A.o j=some y/\y.live=true/\(ρ j).1=some b:=by
  intro j u h S b f;rcases p h with⟨rfl,rfl⟩|⟨rfl,rfl⟩|⟨_,n,m⟩
  .rw[o _ z]at f;exact⟨_,hb,rfl,f⟩
  .rw[Loc.set_same]at f;cases f
  .rw[Loc.set_ne _ _ n]at f;exact⟨u,m,S,f⟩
 have W:∀{i:Nat},NamesO i (.box (cs.set I (.osl id 0)))->i=id\/NamesO i (.box cs):=by
  intro i g;cases g with
  |box _ c V hn=>
   rcases List.mem_or_eq_of_mem_set V with V|rfl
   .exact .inr (.box _ c V hn)
   .cases hn;exact .inl rfl
 have E:eU ((B,some (.box (cs.set I (.osl id 0))))::(id,some (.arr 0 sz (λ_=>[]) T))::A.objs) id≠none:=by
  rw[O,if_neg (Ne.symm P),if_pos rfl];simp
 refine ⟨ρ.set id (none,0),Im,
  {objs:=fun j u t=>?_,own:=fun j u b t S f=>?_,inj:=fun j j' u u' b s n m G h5 h6=>?_,ocl:=fun j u t i g=>?_,imlt:=d.imlt,im0:=d.im0,imf:=d.imf,
   os:=d.os,tape:=d.tape,output:=d.output,size:=d.size,frame:=d.frame,pin:=λj t=>?_,slots:=λq v L=>?_,scl:=λq v L i g=>?_,defers:=d.defers,nt:=d.nt,lrc:=d.lrc,rnd:=d.rnd }⟩
 .rcases p t with⟨rfl,rfl⟩|⟨rfl,rfl⟩|⟨_,n,m⟩
  .cases Q with
   |box _ b xs e s n m=>
    refine .box _ b xs e (by rw[o _ z];exact s) n ⟨by rw[m.1];simp,λi c x C N=>?_⟩;by_cases g:I=i
    .subst g;rw[List.getElem?_set_self (List.getElem?_eq_some_iff.1 K).1]at C;cases C;have:=m.2 I _ x K N;cases this.nils_inv;have G:=Con.osl (ρ:=ρ.set id (none,0)) (Im:=Im) (H:=w.heap) id 0 (χ _) (λh=>absurd rfl h) (χ _);rw[Loc.set_same]at G;exact G
    .rw[List.getElem?_set_ne g]at C;exact(m.2 i c x C N).reloc λk K=>o k (d.ocl _ _ hb k (.box _ c (List.mem_of_getElem? C) K))
  .exact .arr0 _ _ _ (Loc.set_same _ _ _)
  .exact(d.objs j u m).move (λb hb=>hb) (λ_ _=>rfl) (λ_ _=>rfl) (Loc.set_ne _ _ n) λi g=>o i (d.ocl j u m i g)
 .obtain⟨y,s,n,m⟩:=l t S b f;exact d.own j y b s n m
 .obtain⟨y,g1,g2,g3⟩:=l s n b h5;obtain⟨u1,k1,k2,k3⟩:=l m G b h6;exact d.inj j j' y u1 b g1 g2 k1 k2 g3 k3
 .show eU _ i≠none;rcases p t with⟨rfl,rfl⟩|⟨rfl,rfl⟩|⟨_,n,m⟩
  .rcases W g with rfl|g
   .exact E
   .exact r i (d.ocl _ _ hb i g)
  .cases g with
   |arr _ _ _ _ _ _ hlt=>omega
  .exact r i (d.ocl j u m i g)
 .obtain⟨s,n⟩:=d.pin j t;exact⟨by rw[o j n];exact s,r j n⟩
 .obtain⟨x,N,R⟩:=d.slots q v L;exact⟨x,N,R.reloc λi g=>o i (d.scl q v L i g)⟩
 .exact r i (d.scl q v L i g)
theorem fZ{P:Program}{X:Frm}{c:Code}{A:St}{K:Exit->St->Prop}(b i id sz T:Nat){cs:List AV}(hb:eU A.objs b=some (.box cs))(a:cs[i]? =some .nils)(H:eU A.objs id=none)(d:X.pid.elem id=false)
  (h:GoodS P X c ⟨A.env,(b,some (.box (cs.set i (.osl id 0))))::(id,some (.arr 0 sz (λ_=>[]) T))::A.objs⟩ K):GoodS P X c A K:=im (mK b i id sz T hb a H d) h
theorem c8(n:Nat)(v:LObj)(r:Xc)(k:Nat):e7 ((n,v)::r) k=if k=n then some v else e7 r k:=by
 show(bif Nat.beq k n then _ else _)=_;rw[aJ]
theorem CallSpec.thawR{P:Program}{f:FuncId}{L N:List AV}{I outs:Xc}{r:AV}(id:Nat){m sz T:Nat}{g:Nat->List AV}(h:CallSpec P f L I r outs)(him:∀i,i<m->ka [] (g i)=true)(O:e7 I id=none)(hi2:e7 outs id=none)
  (V:∀(ρ:Loc) (Im:Nat->Prop) (H:eZ) (X:Array Value),ObjCon ρ Im H id (.arr m sz g T)->Cons ρ Im H N X->Cons ρ (λb=>Im b\/(ρ id).1=some b) H L X):CallSpec P f N ((id,.arr m sz g T)::I) r ((id,.dead)::outs):=by
 have S:id∉I.map (·.1):=λn=>bJ.2 n O;have q:∀{o:Xc} {v:LObj} {i:Nat},e7 o i≠none->e7 ((id,v)::o) i≠none:=by
  intro o v i C;rw[c8];split
  .simp
  .exact C
 have hnn:∀i,¬NamesO i (.arr m sz g T):=by
  intro i C;cases C with
  |arr _ _ _ _ j c a n C=>exact absurd (cH C (d7 (him j a) c n)) ν
 have G:∀(v:LObj) (o:Xc),e7 ((id,v)::o) id≠none:=by
  intro v o;rw[c8,if_pos rfl];simp
 refine⟨h.enter,λj ob a i s=>?_,λj ob a=>?_,λw ρ Im X d hx=>?_⟩
 .rw[c8]at a;split at a
  .cases a;exact absurd s (hnn i)
  .exact q (h.icl j ob a i s)
 .rw[c8]at a;split at a
  .cases a;rfl
  .exact h.live j ob a
 .have F:e7 ((id,.arr m sz g T)::I) id=some (.arr m sz g T):=by rw[c8,if_pos rfl]
  have z:∀{j:Nat} {u:LObj},e7 I j=some u->j≠id/\e7 ((id,.arr m sz g T)::I) j=some u:=by
   intro j u a;have k:j≠id:=λe=>by rw[e,O]at a;cases a
   exact⟨k,by rw[c8,if_neg k];exact a⟩
  have hoo:=d.objs id _ F;have hm1:Mem (cG w (λb=>Im b\/(ρ id).1=some b) I ρ 0) ρ (λb=>Im b\/(ρ id).1=some b) (e7 I) w :=
   {objs:=fun j u a=>(d.objs j u (z a).2).move (fun b hb=>.inl hb) (fun _ _=>rfl) (fun _ _=>rfl) rfl (fun _ _=>rfl)
    own:=λj u b a Q hb=>by
     obtain⟨p,A,B⟩:=d.own j u b (z a).2 Q hb;refine⟨λs=>s.elim p λE=>(z a).1 (d.inj j id u _ b (z a).2 Q F rfl hb E),A,.inr (bJ.1 (by rw[a];simp))⟩
    inj:=λj j' u u' b p A B W h5 h6=>d.inj j j' u u' b (z p).2 A (z B).2 W h5 h6
    ocl:=h.icl
    imlt:=λb hb=>hb.elim (d.imlt b) λE=>(d.own id _ b F rfl E).2.1
    im0:=λb hb=>hb,imf:=λb hb=>.inl hb
    os:=rfl,tape:=rfl,output:=rfl,size:=π _,frame:=λ_ _ _=>rfl,pin:=λj a=>⟨rfl,bJ.2 a⟩,lrc:=λl r h=>⟨r.state,r.pending,h⟩,rnd:=λl h=>by cases h }
  have hx1:=V ρ Im w.heap X hoo hx;refine(h.calls w ρ _ X hm1 hx1).mono λe w'=>?_;rintro⟨y,K,Im',rfl,hc,C,n⟩;have D:∀{i:Nat},e7 outs i≠none->i≠id:=λs e=>s (by rw[e];exact hi2);have x:∀{i:Nat},i≠id->(if i=id then ρ id else K i)=K i:=λs=>if_neg s;have t:∀{j:Nat} {u:LObj},e7 ((id,.dead)::outs) j=some u->(j=id/\u=.dead)\/(j≠id/\e7 outs j=some u):=by
   intro j u a;rw[c8]at a;split at a
   .rename_i E;cases a;exact .inl ⟨E,rfl⟩
   .rename_i E;exact .inr ⟨E,a⟩
  refine⟨y,λi=>if i=id then ρ id else K i,Im',rfl,hc.reloc λi s=>x (D (C i s)),λi s=>q (C i s),?_⟩;exact
   {objs:=fun j u a=>by
     rcases t a with⟨_,rfl⟩|⟨k,a⟩
     .exact .dead
     .exact(n.objs j u a).move (λb hb=>hb) (λ_ _=>rfl) (λ_ _=>rfl) (x k) λi s=>x (D (n.ocl j u a i s))
    own := λj u b a Q hb=>by
     rcases t a with⟨_,rfl⟩|⟨k,a⟩
     .cases Q
     .simp only[x k]at hb;obtain⟨p,A,B⟩:=n.own j u b a Q hb;exact⟨p,A,B.imp (λh=>h) λh=>List.mem_cons_of_mem _ h⟩
    inj := λj j' u u' b p A B W h5 h6=>by
     rcases t p with⟨_,rfl⟩|⟨k,p⟩
     .cases A
     .rcases t B with⟨_,rfl⟩|⟨R,B⟩
      .cases W
      .simp only[x k]at h5;simp only[x R]at h6;exact n.inj j j' u u' b p A B W h5 h6
    ocl:=λj u a i s=>by
     rcases t a with⟨_,rfl⟩|⟨k,a⟩
     .cases s
     .exact q (n.ocl j u a i s)
    imlt:=n.imlt,im0:=λb hb=>n.im0 b (.inl hb)
    imf := λb hb=>by
     rcases n.imf b hb with p|p|⟨j,p,A⟩
     .rcases p with p|p
      .exact .inl p
      .exact .inr (.inr ⟨id,List.mem_cons_self,p⟩)
     .exact .inr (.inl p)
     .exact .inr (.inr ⟨j,List.mem_cons_of_mem _ p,A⟩)
    os:=n.os,tape:=n.tape,output:=n.output,size:=n.size
    frame:=λb hb hp=>n.frame b hb λi s=>hp i (List.mem_cons_of_mem _ s)
    pin := λj a=>by
     rcases List.mem_cons.1 a with rfl|a
     .exact⟨if_pos rfl,G _ _⟩
     .have k:j≠id:=λe=>S (e▸a);exact⟨(x k).trans (n.pin j a).1,q (n.pin j a).2⟩
    lrc:=n.lrc,rnd:=n.rnd }
theorem CallSpec.thaw{P:Program}{f:FuncId}{us v:List AV}{I outs:Xc}{r:AV}(id:Nat){n m sz T:Nat}{get g:Nat->List AV}(h:CallSpec P f (us++.isl n sz get::v) I r outs)(q:n<=m)(z:∀i,i<n->g i=get i)(e:∀i,i<m->ka [] (g i)=true)
  (o:e7 I id=none) (p:e7 outs id=none):CallSpec P f (us++.osl id n::v) ((id,.arr m sz g T)::I) r ((id,.dead)::outs):=by
 refine h.thawR id e o p λρ Im H X s j=>?_;refine⟨by rw[j.1];simp,λi c x d a=>?_⟩;by_cases u:i<us.length
 .rw[List.getElem?_append_left u]at d;exact(j.2 i c x (by rw[List.getElem?_append_left u];exact d) a).mono (λb hb=>.inl hb) λ_ _=>rfl
 .by_cases y:i=us.length
  .subst y;simp only[List.getElem?_append_right (π _),Nat.sub_self,List.getElem?_cons_zero,Option.some.injEq]at d;subst d;have w:=j.2 us.length (.osl id n) x ν a;have t:=fY s e (.osl id n) x (by simp only[frzC,Nat.beq_refl];exact q) w;simp only[g0,Nat.beq_refl,cond_true]at t;exact(AvLe.isl rfl z).con _ _ _ _ t
  .obtain⟨k,rfl⟩:∃k,i=us.length+(k+1):=⟨i-us.length-1,Z⟩;have l:v[k]? =some c:=by
    rw[List.getElem?_append_right Z]at d;simpa using d
   refine(j.2 _ c x ?_ a).mono (λb hb=>.inl hb) λ_ _=>rfl;rw[List.getElem?_append_right Z];simpa using l
theorem CallSpec.arg{P:Program}{f:FuncId}{us v:List AV}{I outs:Xc}{r:AV}(H:AvsLe us v)(h:CallSpec P f v I r outs):CallSpec P f us I r outs :=
 ⟨h.enter,h.icl,h.live,fun w ρ Im X g a=>h.calls w ρ Im X g ⟨by rw[a.1,H.length],fun i c x b d=>by
  obtain⟨u,j,e⟩:=H.get i c b;exact e.con _ _ _ _ (a.2 i u x j d)⟩⟩
def PC:Code->Code
 |.seq _ b=>b
 |c=>c
def Nr(f:Func):Code:=match f.body with
 |some c=>c
 |none=>.skip
def AP(e:List (Nat×AV)):List Nat->List (Nat×AV)->List (Nat×AV)
 |[],acc=>acc
 |k::ks,acc=>match mz e k with
  |some v=>AP e ks ((k,v)::acc)
  |none=>AP e ks acc
def Cs(objs:Xb):List Nat->Xb->Xb
 |[],acc=>acc
 |k::ks,acc=>match eU objs k with
  |some v=>Cs objs ks ((k,some v)::acc)
  |none=>Cs objs ks acc
def St.kp(A:St)(ks os:List Nat)(e:List (Nat×AV))(o:Xb):St:=⟨AP A.env ks e,Cs A.objs os o⟩
def ON(e:List (Nat×AV)):List Nat->List (Nat×AV)->(List (Nat×AV)->Prop)->Prop
 |[],acc,q=>q acc
 |k::ks,acc,q=>match mz e k with
  |some v=>ON e ks ((k,v)::acc) q
  |none=>ON e ks acc q
def OM(objs:Xb):List Nat->Xb->(Xb->Prop)->Prop
 |[],acc,q=>q acc
 |k::ks,acc,q=>match eU objs k with
  |some v=>OM objs ks ((k,some v)::acc) q
  |none=>OM objs ks acc q
def M8(A:St)(ks os:List Nat)(e:List (Nat×AV))(o:Xb)(q:St->Prop):Prop:=ON A.env ks e λE=>OM A.objs os o λobjs=>q ⟨E,objs⟩
theorem t7{e:List (Nat×AV)}:∀{ks:List Nat} {a:List (Nat×AV)} {q:List (Nat×AV)->Prop},ON e ks a q->q (AP e ks a)
 |[],_,_,h=>h
 |k::ks,a,q,h=>by
  simp only[ON]at h;simp only[AP];cases hl:mz e k with
  |some v=>rw[hl]at h;exact t7 h
  |none=>rw[hl]at h;exact t7 h
theorem t8{objs:Xb}:∀{ks:List Nat} {a:Xb} {q:Xb->Prop},OM objs ks a q->q (Cs objs ks a)
 |[],_,_,h=>h
 |k::ks,a,q,h=>by
  simp only[OM]at h;simp only[Cs];cases hl:eU objs k with
  |some v=>rw[hl]at h;exact t8 h
  |none=>rw[hl]at h;exact t8 h
theorem iD{A:St}{ks os:List Nat}{e:List (Nat×AV)}{o:Xb}{q:St->Prop}(h:M8 A ks os e o q):q (A.kp ks os e o):=t8 (q:=λobjs=>q ⟨AP A.env ks e,objs⟩) (t7 h)
section
variable {P:Program} {X:Frm}
theorem aG{c:Code}{A:St}{K:Exit->St->Prop}{ι:Type}(ks os:List Nat)(r:List (Nat×Nat))(I:ι)(a:ι->Nat)(e:ι->List (Nat×AV))(o:ι->Xb)
  (H:KN X r A (A.kp ks os (e I) (o I))) (h:∀i,M8 A ks os (e i) (o i) λB=>GoodS P X c B (LX X (λi=>A.kp ks os (e i) (o i)) a i K)):LoopG P X (.loop c) A K :=
 Cr (λi=>A.kp ks os (e i) (o i)) a I (fW r H) λi=>iD (h i)
theorem aH{ι:Type}{F:ι->St}{a:ι->Nat}{i:ι}{B:St}(r:List (Nat×Nat))(j:ι)(H:KN X r B (F j))(h:a j<a i):∃j,Ghost X B (F j)/\a j<a i:=⟨j,fW r H,h⟩
theorem bu{T:kb}{R:List ResultVar}{r:AV}{outs:Xc}{B:St}(h:fX T B R (λv=>AvLe (gJ v) r)/\dT B.o outs):∃C,Ghost X B C/\fX T C R (λv=>AvLe (gJ v) r)/\dT C.o outs:=⟨B,Ghost.rfl,h⟩
theorem am{f:FuncId}{v:List AV}{o:Xd}{k:List Nat->AV->Xb->Prop}{r:AV}(h:CallSpec P f v [] r [])(H:k [] r []):vCall P f v o k:=⟨r,[],[],h,trivial,trivial,H⟩
end
section
variable {P:Program} {X:Frm}
theorem iE{f:FuncId}{v:List AV}{o:Xd}{k:List Nat->AV->Xb->Prop}{r:AV}{id:Nat}{a b:LObj}(h:CallSpec P f v [(id,a)] r [(id,b)])(H:o id=some a)(c:k [id,id] r [(id,some b)]):vCall P f v o k :=
 ⟨r,[(id,a)],[(id,b)],h,⟨H,trivial⟩,⟨by simp only[e7,Nat.beq_refl,cond_true],trivial⟩,c⟩
theorem bR{f:FuncId}(us v:List AV){o:Xd}{k:List Nat->AV->Xb->Prop}{r:AV}{id n m sz T:Nat}{G g:Nat->List AV}(h:CallSpec P f (us++.isl n sz G::v) [] r [])(d:o id=some (.arr m sz g T))(a:n<=m)
  (b:∀i,i<n->g i=G i) (H:∀i,i<m->ka [] (g i)=true) (c:k [id,id] r [(id,some .dead)]):vCall P f (us++.osl id n::v) o k :=
 ⟨r,[(id,.arr m sz g T)],[(id,.dead)],h.thaw id a b H rfl rfl,⟨d,trivial⟩,⟨by simp only[e7,Nat.beq_refl,cond_true],trivial⟩,c⟩
theorem mL{f:FuncId}(us V:List AV){o:Xd}{k:List Nat->AV->Xb->Prop}{r:AV}{id j n m sz T:Nat}{G g:Nat->List AV}{a b:LObj}(h:CallSpec P f (us++.isl n sz G::V) [(j,a)] r [(j,b)])(c:Nat.beq id j=false)(p:o j=some a)
  (t:o id=some (.arr m sz g T)) (l:n<=m) (q:∀i,i<n->g i=G i) (H:∀i,i<m->ka [] (g i)=true) (s:k [id,j,id,j] r [(id,some .dead),(j,some b)]):vCall P f (us++.osl id n::V) o k:=by
 have d:j≠id:=λe=>by rw[e,Nat.beq_refl]at c;cases c
 have E:∀v:LObj,e7 [(j,v)] id=none:=λv=>by simp only[e7,c,cond_false]
 refine⟨r,[(id,.arr m sz g T),(j,a)],[(id,.dead),(j,b)],h.thaw id l q H (E a) (E b),⟨t,p,trivial⟩,⟨?_,?_,trivial⟩,s⟩
 .rw[c8,if_pos rfl];trivial
 .rw[c8,if_neg d,c8,if_pos rfl];trivial
theorem xt{T:kb}{R:List ResultVar}{r:AV}{id:Nat}{ob:LObj}{B:St}(h:fX T B R (λv=>AvLe (gJ v) r))(H:B.o id=some ob):∃C,Ghost X B C/\fX T C R (λv=>AvLe (gJ v) r)/\dT C.o [(id,ob)]:=⟨B,Ghost.rfl,h,H,trivial⟩
end
section
variable {P:Program} {X:Frm}
theorem aT{c:Code}{A:St}{K:Exit->St->Prop}(ks os:List Nat)(r:List (Nat×Nat))(e:List (Nat×AV))(o:Xb)(h:KN X r A (A.kp ks os e o))(k:M8 A ks os e o λB=>GoodS P X c B K):GoodS P X c A K:=im (fW r h) (iD k)
def KL(T:kb)(X:Frm)(R:List ResultVar)(r:AV)(outs:Xc)(B:St):Prop:=∃C,Ghost X B C/\fX T C R (λv=>AvLe (gJ v) r)/\dT C.o outs
theorem b8{T:kb}{a:List ResultVar}{r:AV}{outs:Xc}{B:St}(ks os:List Nat)(R:List (Nat×Nat))(e:List (Nat×AV))(o:Xb)(h:KN X R B (B.kp ks os e o))(k:M8 B ks os e o (KL T X a r outs)):∃C,Ghost X B C/\fX T C a (λv=>AvLe (gJ v) r)/\dT C.o outs:=by
 obtain⟨C,H,b⟩:=iD k;exact⟨C,(fW R h).trans H,b⟩
theorem cq{T:kb}{R:List ResultVar}{r:AV}{outs:Xc}{B:St}(id:Nat){ob:LObj}(H:eU B.objs id=some ob)(e:X.pid.elem id=false)(h:H4 ob)(d:rh id ob B.env)(a:jf id ob B.objs)(k:KL T X R r outs (B.frz id ob)):KL T X R r outs B:=by
 obtain⟨C,b,c⟩:=k;exact⟨C,(ll id H e h d a).trans b,c⟩
theorem du{T:kb}{R:List ResultVar}{r:AV}{B:St}(h:fX T B R (λv=>AvLe (gJ v) r)):KL T X R r [] B:=⟨B,Ghost.rfl,h,trivial⟩
theorem ip{T:kb}{R:List ResultVar}{r:AV}{id:Nat}{ob:LObj}{B:St}(h:fX T B R (λv=>AvLe (gJ v) r))(H:B.o id=some ob):KL T X R r [(id,ob)] B:=⟨B,Ghost.rfl,h,H,trivial⟩
end
def L5:Nat->(Nat->Prop)->Prop
 |0,_=>True
 |n+1,p=>L5 n p/\p n
theorem aM{p:Nat->Prop}:∀{n:Nat},L5 n p->∀i,i<n->p i
 |0,_,i,hi=>absurd hi (Nat.not_lt_zero i)
 |n+1,h,i,hi=>by
  by_cases e:i=n
  .rw[e];exact h.2
  .exact aM h.1 i Z
def ey{α:Type}(enc:α->List AV)(d:α)(l:List α):Nat->List AV:=λi=>enc (l.getD i d)
def hP(v:Int):List AV:=[.int .i64 v]
theorem b9{α:Type}(enc:α->List AV)(d:α)(l:List α)(x:α){n:Nat}(H:n=l.length)(i:Nat)(b:i<n+1)(t:List AV)(a:i=n->t=enc x):(bif Nat.blt i n then ey enc d l i else t)=ey enc d (l++[x]) i:=by
 subst H;unfold ey;by_cases h:i<l.length
 .rw[show Nat.blt i l.length=true from Nat.blt_eq.mpr h];simp[List.getElem?_append_left h]
 .have e:i=l.length:=Z;rw[a e];subst e;rw[show Nat.blt l.length l.length=false by cases hb:Nat.blt l.length l.length with |false=>rfl|true=>exact absurd (Nat.blt_eq.mp hb) (Nat.lt_irrefl _)];simp
theorem bN{id:Nat}{ob:LObj}(h:eu [id] ob):∀p∈[(id,ob)],eu ([(id,ob)].map (·.1)) p.2:=by
 intro p H;simp only[List.mem_singleton]at H;subst H;exact h
def slc{α:Type}(sz:Nat)(enc:α->List AV)(d:α)(l:List α):AV:=.isl l.length sz λi=>enc (l.getD i d)
abbrev J(n:Int):AV:=.int .i64 n
def c4(l:List Int):AV:=.isl l.length 1 λi=>[J (l.getD i 0)]
structure Curve where
 vals:List Int
 per:Int
 inc:Int
deriving DecidableEq
def Curve.cells(c:Curve):List AV:=[c4 c.vals,J c.per,J c.inc]
def Curve.av(c:Curve):AV:=.agg [c4 c.vals,J c.per,J c.inc]
structure Line where
 kind:Int
 cap:Int
 classes:Int
 weights:List Int
 slots:List Int
deriving DecidableEq
def Line.cells(l:Line):List AV:=[J l.kind,J l.cap,J l.classes,c4 l.weights,c4 l.slots]
def Line.av(l:Line):AV:=.agg l.cells
structure Flow where
 name:ByteArray
 route:List Int
 class_:Int
 least:Int
 most:Int
 con:Curve
def Flow.cells(f:Flow):List AV:=[.str f.name,c4 f.route,J f.class_,J f.least,J f.most,c4 f.con.vals,J f.con.per,J f.con.inc]
def Flow.av(f:Flow):AV:=.agg f.cells
structure Rd where
 l:List Int
 pos:Nat
def Rd.ob(s:Rd):LObj:=.box [c4 s.l,J s.pos]
def cx:Int:=4611686018427387904
theorem Θ{u:AV}:AvLe u u:=AvLe.rfl
theorem Ξ{u v:AV}(h:u=v):AvLe u v:=AvLe.of_eq h
theorem Γ{k:IntKind}{a b:Int}(h:a=b):AvLe (.int k a) (.int k b):=AvLe.int h
theorem kd{n N sz:Nat}{g G:Nat->List AV}(H:n=N)(h:∀i,i<n->g i=G i):AvLe (.isl n sz g) (.isl N sz G):=AvLe.isl H h
theorem cy{u:LObj}:ObLe u u:=ObLe.rfl
theorem fl{n N sz:Nat}{g G:Nat->List AV}{T:Nat}(H:n=N)(h:∀i,i<n->g i=G i):ObLe (.arr n sz g T) (.arr N sz G T):=ObLe.arr H h
end Go.Nc