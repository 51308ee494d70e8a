/- Parts. -/
import Derived.Test.YtbdkgpcdkalfdaaGreatNdAA
import Derived.Laws.Tables
namespace Go.Nc
theorem ConI.noNames{Im:Nat->Prop}{H:eZ}{v:AV}{x:Value}(h:ConI Im H v x):∀i,¬Names i v:=by
 have key:∀(cs:List AV) (X:Array Value),X.size=cs.length->(∀(i:Nat) (c:AV) (x:Value),cs[i]? =some c->X[i]? =some x->∀j,¬Names j c)->∀c∈cs,∀j,¬Names j c:=by
  intro cs X b I c d j;obtain⟨i,e,rfl⟩:=List.mem_iff_getElem.1 d;exact I i cs[i] (X[i]'Z) ν ν j
 induction h with
 |int|bool|str|junk|nils|emp|niface|nfunc|nptr|nmap|isl0|iface|isl|icap|eptr|ibox=>intro i a;cases a
 |fn f caps X b _ I=>intro i a;cases a with |fn _ _ c hm h=>exact key caps X b I c hm i h
 |agg cs X b _ I=>intro i a;cases a with |agg _ c hm h=>exact key cs X b I c hm i h
 |tup cs X b _ I=>intro i a;cases a with |tup _ c hm h=>exact key cs X b I c hm i h
structure VCells(cs:List AV)(k:List AV->Prop):Prop where
 ex:∃cs',cs=cs'/\k cs'
def iB(o:Xd)(p:AV)(k:List AV->Nat->List Nat->Prop):Prop :=
 match p with
 |.lptr id off=>match o id with
  |some (.box cs)=>k cs off [id]
  |_=>False
 |.ibox cs off=>k cs off []
 |.eptr _ _ get i j=>k (get i) j []
 |.optr id sz i j=>match o id with
  |some (.arr n sz' get _)=>ck (Nat.beq sz' sz) (Side (i<n) (VCells (get i) λcs=>k cs j [id]))
  |_=>False
 |_=>False
theorem ke{o:Xd}{p:AV}{k:List AV->Nat->List Nat->Prop}(h:iB o p k) :
  ∃cs O R,k cs O R/\∀o',(∀i∈R,o' i=o i)->∀(X:Frm) (ρ:Loc) (Im:Nat->Prop) (w:World),Mem X ρ Im o' w->∀u,Con ρ Im w.heap p u->
   ∃(b B:Nat) (arr:Array Value) (T:TypeId) (fr:Nat×Nat),u=.pointer (some ⟨b,B+O,none⟩)/\w.heap[b]? =some (.cells arr T fr)/\B+cs.length<=arr.size/\
    (∀(j:Nat) (c:AV) (x:Value),cs[j]? =some c->arr[B+j]? =some x->Con ρ Im w.heap c x)/\∀c∈cs,∀i,Names i c->o' i≠none:=by
 have imm:∀{ρ:Loc} {Im:Nat->Prop} {w:World} {o':Xd} (cs:List AV) (B:Nat) (arr:Array Value),B+cs.length<=arr.size->
   (∀(j:Nat) (c:AV) (x:Value),cs[j]? =some c->arr[B+j]? =some x->ConI Im w.heap c x)->
   (∀(j:Nat) (c:AV) (x:Value),cs[j]? =some c->arr[B+j]? =some x->Con ρ Im w.heap c x)/\∀c∈cs,∀i,Names i c->o' i≠none:=by
  intro ρ Im w o' cs B arr I e;refine⟨λj c x a d=>.imm _ _ (e j c x a d),λc y i z=>?_⟩;obtain⟨j,L,rfl⟩:=List.mem_iff_getElem.1 y;exact absurd z ((e j cs[j] (arr[B+j]'Z) ν ν).noNames i)
 unfold iB at h;split at h
 .rename_i id O;split at h
  .rename_i cs D;refine⟨cs,O,[id],h,λo' l X ρ Im w m u r=>?_⟩;have f:o' id=some (.box cs):=(l id ν).trans D;cases r with
   |imm _ _ hi=>cases hi
   |lptr _ _ b hb=>
    have q:=m.objs id _ f;cases q with
    |box _ b' xs T hρ hh e=>
     rw[hb]at hρ;cases hρ;refine⟨b,0,xs,T,(0,0),by simp,hh,by rw[e.1];simp,λj c x a d=>e.2 j c x a (by simpa using d),λc y i z=>?_⟩;exact m.ocl id _ f i (.box _ c y z)
  .exact h.elim
 .rename_i cs O;refine⟨cs,O,[],h,λo' _ X ρ Im w m u r=>?_⟩;cases r with
  |imm _ _ hi=>
   cases hi with
   |ibox _ _ b arr T fr him hb I e=>
    obtain⟨a,d⟩:=imm (ρ:=ρ) (o':=o') (w:=w) cs 0 arr Z (λj c x a d=>e j c x a (by simpa using d));exact⟨b,0,arr,T,fr,by simp,hb,Z,a,d⟩
 .rename_i n sz g i j;refine⟨g i,j,[],h,λo' _ X ρ Im w m u r=>?_⟩;cases r with
  |imm _ _ hi=>
   cases hi with
   |eptr _ _ _ _ _ b O arr T fr him hb hsz hfit e H=>
    have A:(i+1)*sz<=n*sz:=Nat.mul_le_mul_right _ H;have t:(i+1)*sz=i*sz+sz:=Nat.succ_mul i sz;have v:=hsz i H;obtain⟨a,d⟩:=imm (ρ:=ρ) (o':=o') (w:=w) (g i) (O+i*sz) arr Z (λF c x a d=>e i F c x H a d);exact⟨b,O+i*sz,arr,T,fr,rfl,hb,Z,a,d⟩
 .rename_i id sz i j;split at h
  .rename_i n s g T D;obtain⟨E,H,⟨_,rfl,G⟩⟩:=be h;have E:s=sz:=Nat.eq_of_beq_eq_true E;subst E;refine⟨g i,j,[id],G,λo' l X ρ Im w m u r=>?_⟩;have f:o' id=some (.arr n s g T):=(l id ν).trans D;cases r with
   |imm _ _ hi=>cases hi
   |optr _ _ _ _ b hb=>
    have q:=m.objs id _ f;cases q with
    |arr0=>omega
    |arr _ _ _ _ b' xs hρ hh z hcap hxs hbd hsz e=>
     rw[hb]at hρ;cases hρ;have A:(i+1)*s<=(ρ id).2*s:=Nat.mul_le_mul_right _ Z;have t:(i+1)*s=i*s+s:=Nat.succ_mul i s;have v:=hsz i H;refine⟨b,i*s,xs,T,(0,0),rfl,hh,Z,λF c x a d=>e i F c x H a d,λc y K C=>?_⟩;exact m.ocl id _ f K (.arr _ _ _ _ i c H y C)
  .exact h.elim
 .exact h.elim
def oH(t:TI)(cs:List AV)(o:Nat)(k:AV->Prop):Prop :=
 match t.agg with
 |true=>ck (Nat.ble (o+t.size) cs.length) (k (.agg ((cs.drop o).take t.size)))
 |false=>match cs[o]? with
  |some v=>k v
  |none=>False
theorem yO(w:World)(b o:Nat)(a:Array Value)(T:TypeId)(fr:Nat×Nat)(h:w.heap[b]? =some (.cells a T fr)):w.cell? ⟨b,o,none⟩=a[o]?:=cell_of_row w b o a T fr h
theorem kg{P:Program}(w:World)(t:TypeId)(c:TI)(e:TiOk P t c)(b o:Nat)(a:Array Value)(T:TypeId)(fr:Nat×Nat)(h:w.heap[b]? =some (.cells a T fr))
  (f:c.agg=true->o+c.size<=a.size) (k:c.agg=false->o<a.size) :
  ∃y,(Instr.loadAt t (.pointer (some ⟨b,o,none⟩))).run P w=.ok y w/\(c.agg=true->∃p,y=.agg p/\p.size=c.size/\∀j x,p[j]? =some x->a[o+j]? =some x)/\(c.agg=false->a[o]? =some y):=by
 cases ha:c.agg with
 |true=>
  have q:=f ha;have H:=run_loadCells_list (P:=P) w ⟨b,o,none⟩ ((a.toList.drop o).take c.size) (fun j v l=>by
   rw[Addr.add_lit,yO w b _ a T fr h];rw[List.getElem?_take]at l;split at l
   .simpa using l
   .cases l)
  have g:((a.toList.drop o).take c.size).length=c.size:=by simp;omega
  rw[g]at H;refine⟨.agg ((a.toList.drop o).take c.size).toArray,?_,λ_=>⟨_,rfl,by simp;omega,λj x m=>?_⟩,λn=>by cases n⟩
  .simp[Instr.loadAt,Instr.sureAddr,loadVar,e.isAgg,ha,e.sizeOf,H]
  .simp only[List.getElem?_toArray,List.getElem?_take]at m;split at m
   .simpa using m
   .cases m
 |false=>
  have i:=k ha;refine⟨a[o],?_,⟨λn=>(by cases n),λ_=>by simp[i]⟩⟩;have d:w.cell? ⟨b,o,none⟩=some a[o]:=by rw[yO w b o a T fr h];simp[i]
  simp[Instr.loadAt,Instr.sureAddr,loadVar,e.isAgg,ha,d]
theorem nC{P:Program}{t:Nat}{e:TI}(l:TiOk P t e){cs:List AV}{o:Nat}{k:AV->Prop}(h:oH e cs o k) :
  ∃v,k v/\(∀i,Names i v->∃c∈cs,Names i c)/\∀(ρ:Loc) (Im:Nat->Prop) (w:World) (b B:Nat) (a:Array Value) (T:TypeId) (fr:Nat×Nat),w.heap[b]? =some (.cells a T fr)->B+cs.length<=a.size->
   (∀(j:Nat) (c:AV) (x:Value),cs[j]? =some c->a[B+j]? =some x->Con ρ Im w.heap c x)->∃y,(Instr.loadAt t (.pointer (some ⟨b,B+o,none⟩))).run P w=.ok y w/\Con ρ Im w.heap v y:=by
 unfold oH at h;cases ha:e.agg with
 |true=>
  rw[ha]at h;obtain⟨q,u⟩:=be h;have q:o+e.size<=cs.length:=Nat.le_of_ble_eq_true q;refine⟨_,u,λi g=>?_,λρ Im w b B a T fr hb f d=>?_⟩
  .cases g with
   |agg _ c hm g=>exact⟨c,List.mem_of_mem_drop (List.mem_of_mem_take hm),g⟩
  .obtain⟨y,n,r,_⟩:=kg w t e l b (B+o) a T fr hb (λ_=>Z) (λd=>by rw[ha]at d;cases d);obtain⟨D,rfl,A,p⟩:=r ha;refine⟨_,n,.agg _ _ (by simp;omega) λj c x H C=>?_⟩;rw[List.getElem?_take]at H;split at H
   .rw[List.getElem?_drop]at H;exact d (o+j) c x H (by rw[<-Nat.add_assoc];exact p j x C)
   .cases H
 |false=>
  rw[ha]at h;simp only at h
  .split at h
   .rename_i v m;have z:o<cs.length:=(List.getElem?_eq_some_iff.1 m).1;refine⟨v,h,λi g=>⟨v,List.mem_of_getElem? m,g⟩,λρ Im w b B a T fr hb f d=>?_⟩;obtain⟨y,n,_,s⟩:=kg w t e l b (B+o) a T fr hb (λd=>by rw[ha]at d;cases d) (λ_=>Z);exact⟨y,n,d o v y m (s ha)⟩
   .exact h.elim
section
variable {P:Program} {X:Frm} {ops:Array Oper} {T:kb}
def AA(t:TI)(A:St)(p:Operand)(k:List Nat->AV->Prop):Prop :=
 match cm A.s p with
 |some v=>iB A.o v λcs o r=>oH t cs o (k r)
 |none=>False
theorem xc{o:Oper}{t:Nat}{p:Operand}(K:o.op=.load t p){A:St}(C:lk ops o A.s)(x:co X.nt o){q:TI}(l:TiOk P t q){k:List Nat->AV->Prop}(h:AA q A p k) :
  ∃r v,k r v/\bD P X ops o A.s A.o (dj ops o (di p) r v):=by
 unfold AA at h;split at h
 .rename_i v Q;obtain⟨cs,S,r,E,L⟩:=ke h;obtain⟨u,O,I,F⟩:=nC l E;refine⟨r,u,O,cU C x λs' o' N j ρ Im a w n=>?_⟩;have m:cm s' p=some v:=(ay N).trans Q;obtain⟨b,B,d,T,fr,z,hb,H,s,e⟩:=L o' j X ρ Im w n.toMem _ (n.opd m);obtain⟨y,R,f⟩:=F ρ Im w b B d T fr hb H s;refine⟨⟨y,?_,f⟩,λi D=>?_⟩
  .simp[execOp,K,z,R]
  .obtain⟨c,G,g⟩:=I i D;exact e c G i g
 .exact h.elim
end
section
variable {P:Program} {X:Frm} {ops:Array Oper} {T:kb}
theorem bh{o:Oper}{A:St}(b:lk ops o A.s)(H:co X.nt o){r:List Nat}{v:AV}
  (h:∀s',(∀k∈r,s' k=A.s k)->∀(o':Xd) ρ Im a w,RelAt X ρ Im s' o' a w->
   (∃y,(execOp a.eval o).run P w=.ok (.value y) w/\Con ρ Im w.heap v y)/\∀i,Names i v->o' i≠none) :
  bD P X ops o A.s A.o (dj ops o r [] v) :=
 cU b H λs' o' d _ ρ Im a w c=>h s' d o' ρ Im a w c
def ik(p:AV)(d:Nat):Option AV:=match p with
 |.lptr id off=>some (.lptr id (off+d))
 |.ibox cs off=>some (.ibox cs (off+d))
 |.eptr n sz get i j=>some (.eptr n sz get i (j+d))
 |.optr id sz i j=>some (.optr id sz i (j+d))
 |_=>none
theorem iZ{p v:AV}{d:Nat}(h:ik p d=some v){ρ:Loc}{Im:Nat->Prop}{H:eZ}{u:Value}(c:Con ρ Im H p u) :
  (∃b o,u=.pointer (some ⟨b,o,none⟩)/\Con ρ Im H v (.pointer (some ⟨b,o+d,none⟩)))/\∀i,Names i v->Names i p:=by
 cases c with
 |imm _ _ hi=>
  cases hi with
  |ibox cs o b arr T fr him hb hl c=>
   simp only[ik,Option.some.injEq]at h;subst h;exact⟨⟨b,o,rfl,.imm _ _ (.ibox cs _ b arr T fr him hb hl c)⟩,λi a=>by cases a⟩
  |eptr n sz get i j b o arr T fr him hb hsz hfit c hlt=>
   simp only[ik,Option.some.injEq]at h;subst h;exact⟨⟨b,o+i*sz+j,rfl,.imm _ _ (by rw[Nat.add_assoc];exact .eptr n sz get i _ b o arr T fr him hb hsz hfit c hlt)⟩,λi a=>by cases a⟩
  |_=>simp[ik]at h
 |lptr id o b hb=>
  simp only[ik,Option.some.injEq]at h;subst h;exact⟨⟨b,o,rfl,.lptr id _ b hb⟩,λi a=>by cases a;exact .lptr _⟩
 |optr id sz i j b hb=>
  simp only[ik,Option.some.injEq]at h;subst h;exact⟨⟨b,i*sz+j,rfl,by rw[Nat.add_assoc];exact .optr id sz i _ b hb⟩,λi a=>by cases a;exact .optr _ _ _⟩
 |_=>simp[ik]at h
def r7(t:TI)(f:Nat)(p:AV)(k:AV->Prop):Prop:=match t.tk with
 |.struct=>match t.flds[f]? with
  | some (off,sz)=>ck (Nat.blt 0 sz) (match ik p off with
   |some v=>k v
   |none=>False)
  |none=>False
 |_=>False
theorem xd(w:World){t:Nat}{k:TI}(j:TiOk P t k)(m:k.tk=.struct){f O sz:Nat}(a:k.flds[f]? =some (O,sz))(n:0<sz)(b o:Nat) :
  (Instr.fieldAt t (.pointer (some ⟨b,o,none⟩)) f).run P w=.ok (.pointer (some ⟨b,o+O,none⟩)) w:=by
 obtain⟨F,p,d⟩:=j.struct m;rw[<-d,List.getElem?_map]at a;cases hfd:F.toList[f]? with
 |none=>simp[hfd]at a
 |some fd=>
  simp only[hfd,Option.map_some,Option.some.injEq,Prod.mk.injEq]at a;obtain⟨E,e⟩:=a;have H:F[f]? =some fd:=by simpa using hfd
  have h:∃i,P.info? fd.type=some i/\i.size=sz:=by
   unfold Program.cellsOf at e;cases c:P.info? fd.type with
   |none=>simp[c]at e;omega
   |some i=>exact⟨i,rfl,by simpa[c]using e⟩
  obtain⟨i,c,l⟩:=h;have g:¬i.size=0:=Z;simp[Instr.fieldAt,run_underlying p,H,Instr.sureAddr,fieldPlace,Go.sizeOf,typeInfo,c,g,E,Addr.add_lit]
theorem uS{O:Oper}{t f:Nat}{p:Operand}(y:O.op=.fieldAddr t p f){A:St}(q:lk ops O A.s)(l:co X.nt O){g:TI}(d:TiOk P t g){v:AV}(C:cm A.s p=some v){k:AV->Prop}
  (h:r7 g f v k):∃u,k u/\bD P X ops O A.s A.o (dj ops O (di p) [] u):=by
 unfold r7 at h;split at h
 .rename_i s;split at h
  .rename_i D sz n;obtain⟨H,h⟩:=be h;have H:0<sz:=by simpa[Nat.blt_eq]using H
   split at h
   .rename_i u B;refine⟨u,h,bh q l λs' z o' ρ Im a w e=>?_⟩;have c:cm s' p=some v:=(ay z).trans C;obtain⟨⟨b,o,m,j⟩,x⟩:=iZ B (e.opd c);refine⟨⟨_,?_,j⟩,λi r=>e.opdN c (x i r)⟩;simp[execOp,y,m,xd w d s n H]
   .exact h.elim
  .exact h.elim
 .exact h.elim
def mA(p:AV)(k:AV->Prop):Prop:=match ik p 0 with
 |some _=>k p
 |none=>False
theorem tm{O:Oper}{p:Operand}(j:O.op=.nilCheck p){A:St}(f:lk ops O A.s)(d:co X.nt O){v:AV}(n:cm A.s p=some v){k:AV->Prop}
  (h:mA v k):∃u,k u/\bD P X ops O A.s A.o (dj ops O (di p) [] u):=by
 unfold mA at h;split at h
 .rename_i u m;refine⟨v,h,bh f d λs' l o' ρ Im a w c=>?_⟩;have H:cm s' p=some v:=(ay l).trans n;obtain⟨⟨b,o,e,q⟩,r⟩:=iZ m (c.opd H);refine⟨⟨a.eval p,?_,c.opd H⟩,λi g=>c.opdN H g⟩;simp[execOp,j,e]
 .exact h.elim
def r8(T:kb)(t:TI)(x I:AV)(k:AV->Prop):Prop:=match t.tk with
 |.slice e=>match gq T e with
  |some te=>match x,I with
   |.isl n sz get,.int _ i=>ck (Nat.beq te.size sz) (Side (0<=i/\i<n) (k (.eptr n sz get i.toNat 0)))
   |.osl id n,.int _ i=>Side (0<=i/\i<n) (k (.optr id te.size i.toNat 0))
   |.osub id off n sz,.int _ i=>ck (Nat.beq te.size sz) (Side (0<=i/\i<n) (k (.optr id sz (off+i.toNat) 0)))
   |_,_=>False
  |none=>False
 |.arr n e=>match gq T e with
  |some te=>match I with
   | .int _ i=>Side (0 <= i/\i < n) (match ik x (i.toNat*te.size)with
    |some v=>k v
    |none=>False)
   |_=>False
  |none=>False
 |_=>False
theorem Con.osl_inv{ρ:Loc}{Im:Nat->Prop}{H:eZ}{id n:Nat}{x:Value}(h:Con ρ Im H (.osl id n) x) :
  n<=f8/\(n≠0->(ρ id).1≠none)/\n<=(ρ id).2/\x=.slice ((ρ id).1.map λb=>⟨b,0,none⟩) n (ρ id).2:=by
 cases h with
 |imm _ _ hi=>cases hi
 |osl _ _ hbd hne hnc=>exact⟨hbd,hne,hnc,rfl⟩
theorem Con.emp_inv{ρ:Loc}{Im:Nat->Prop}{H:eZ}{x:Value}(h:Con ρ Im H .emp x):∃p,x=.slice p 0 0:=by
 cases h with
 |imm _ _ hi=>cases hi with |emp p=>exact⟨p,rfl⟩
theorem Con.osub_inv{ρ:Loc}{Im:Nat->Prop}{H:eZ}{id o n sz:Nat}{x:Value}(h:Con ρ Im H (.osub id o n sz) x) :
  ∃cap p,(n≠0->∃b,(ρ id).1=some b/\p=some ⟨b,o*sz,none⟩)/\x=.slice p n cap:=by
 cases h with
 |imm _ _ hi=>cases hi
 |osub _ _ _ _ cap p hbd hp hnc=>exact⟨cap,p,hp,rfl⟩
theorem Con.osub_inv'{ρ:Loc}{Im:Nat->Prop}{H:eZ}{id o n sz:Nat}{x:Value}(h:Con ρ Im H (.osub id o n sz) x) :
  ∃cap p,n<=f8/\n<=cap/\(n≠0->∃b,(ρ id).1=some b/\p=some ⟨b,o*sz,none⟩)/\x=.slice p n cap:=by
 cases h with
 |imm _ _ hi=>cases hi
 |osub _ _ _ _ cap p hbd hp hnc=>exact⟨cap,p,hbd,hnc,hp,rfl⟩
theorem uT(hT:fK P T){O:Oper}{t:Nat}{x I:Operand}(L:O.op=.indexAddr t x I){A:St}(K:lk ops O A.s)(G:co X.nt O){ti:TI}(D:TiOk P t ti){v vi:AV}(N:cm A.s x=some v)(s:cm A.s I=some vi)
  {k:AV->Prop} (h:r8 T ti v vi k):∃u,k u/\bD P X ops O A.s A.o (dj ops O (di x++di I) [] u):=by
 unfold r8 at h;split at h
 .rename_i e d;have F:=D.slice d;split at h
  .rename_i q g;have g:=hT e q g;split at h
   .rename_i n sz R ki i;obtain⟨f,⟨z,r⟩,h⟩:=be h;have f:q.size=sz:=Nat.eq_of_beq_eq_true f;subst f;refine⟨_,h,bh K G λs' f o' ρ Im a w m=>⟨?_,λi l=>by cases l⟩⟩;have c:cm s' x=some _:=(ay λk d=>f k (by simp[d])).trans N;have H:cm s' I=some _:=(ay λk d=>f k (by simp[d])).trans s;have y:=(m.opd H).int_inv;rcases(m.opd c).isl_inv with⟨l,_⟩|⟨b,o,cap,Q,T',fr,E,W,hb,hsz,l,S,C,V⟩
    .subst l;simp at r;omega
    .refine⟨.pointer (some ⟨b,o+i.toNat*q.size+0,none⟩),?_,.imm _ _ (.eptr n q.size R i.toNat 0 b o Q T' fr W hb hsz C V Z)⟩;simp[execOp,L,E,y,Instr.indexAt,asIntOf,run_underlying F,z,r,g.sizeOf,Addr.add_lit]
   .rename_i id n ki i;obtain⟨⟨z,r⟩,h⟩:=h;refine⟨_,h,bh K G λs' f o' ρ Im a w m=>?_⟩;have c:cm s' x=some _:=(ay λk d=>f k (by simp[d])).trans N;have H:cm s' I=some _:=(ay λk d=>f k (by simp[d])).trans s;have y:=(m.opd H).int_inv;obtain⟨S,B,_,E⟩:=(m.opd c).osl_inv;have B:=B (by intro l;subst l;simp at r;omega);obtain⟨b,hb⟩:=Option.ne_none_iff_exists'.1 B;refine⟨⟨.pointer (some ⟨b,i.toNat*q.size+0,none⟩),?_,.optr id q.size i.toNat 0 b hb⟩,λj l=>?_⟩
    .simp[execOp,L,E,y,hb,Instr.indexAt,asIntOf,run_underlying F,z,r,g.sizeOf,Addr.add_lit]
    .cases l;exact m.opdN c (.osl _)
   .rename_i id o n sz ki i;obtain⟨f,⟨z,r⟩,h⟩:=be h;have f:q.size=sz:=Nat.eq_of_beq_eq_true f;subst f;refine⟨_,h,bh K G λs' f o' ρ Im a w m=>?_⟩;have c:cm s' x=some _:=(ay λk d=>f k (by simp[d])).trans N;have H:cm s' I=some _:=(ay λk d=>f k (by simp[d])).trans s;have y:=(m.opd H).int_inv;obtain⟨cap,p,hp,E⟩:=(m.opd c).osub_inv;obtain⟨b,hb,rfl⟩:=hp (by intro l;subst l;simp at r;omega);refine⟨⟨.pointer (some ⟨b,(o+i.toNat)*q.size+0,none⟩),?_,.optr id q.size (o+i.toNat) 0 b hb⟩,λj l=>?_⟩
    .simp[execOp,L,E,y,Instr.indexAt,asIntOf,run_underlying F,z,r,g.sizeOf,Addr.add_lit,Nat.add_mul]
    .cases l;exact m.opdN c (.osub _ _ _)
   .exact h.elim
  .exact h.elim
 .rename_i n e d;have F:=D.arr d;split at h
  .rename_i q g;have g:=hT e q g;split at h
   .rename_i ki i;obtain⟨⟨z,r⟩,h⟩:=h;split at h
    .rename_i u hsh;refine⟨u,h,bh K G λs' f o' ρ Im a w m=>?_⟩;have c:cm s' x=some _:=(ay λk d=>f k (by simp[d])).trans N;have H:cm s' I=some _:=(ay λk d=>f k (by simp[d])).trans s;have y:=(m.opd H).int_inv;obtain⟨⟨b,o,E,V⟩,l⟩:=iZ hsh (m.opd c);refine⟨⟨_,?_,V⟩,λj hj=>m.opdN c (l j hj)⟩;simp[execOp,L,E,y,Instr.indexAt,Instr.sureAddr,asIntOf,run_underlying F,z,r,g.sizeOf,Addr.add_lit]
    .exact h.elim
   .exact h.elim
  .exact h.elim
 .exact h.elim
def Kt(t:TI)(x:AV)(k:AV->Prop):Prop:=match t.tk,x with
 |.slice _,.isl n _ _=>k (.int .i64 n)
 |.slice _,.osl _ n=>k (.int .i64 n)
 |.slice _,.osub _ _ n _=>k (.int .i64 n)
 |.slice _,.nils=>k (.int .i64 0)
 |.slice _,.emp=>k (.int .i64 0)
 |.str,.str s=>k (.int .i64 s.size)
 |_,_=>False
theorem AB{o:Oper}{t:Nat}{x:Operand}(B:o.op=.call { callee:=.builtin .len,args:=#[x],argTypes:=#[t] }){A:St}(z:lk ops o A.s)(r:co X.nt o){m:TI}(c:TiOk P t m){v:AV}(E:cm A.s x=some v)
  {k:AV->Prop} (h:Kt m v k):∃u,k u/\bD P X ops o A.s A.o (dj ops o (di x) [] u):=by
 have key:∀(u:AV) (n:Int),u=.int .i64 n->(∀(ρ:Loc) (Im:Nat->Prop) (w:World) (y:Value),Con ρ Im w.heap v y->(Builtin.len_ #[t] o.type #[y]).run P w=.ok (goInt n) w)->
   bD P X ops o A.s A.o (dj ops o (di x) [] u):=by
  intro u n H g;refine bh z r λs' D o' ρ Im a w C=>⟨?_,λi j=>by subst H;cases j⟩;have l:cm s' x=some v:=(ay D).trans E;refine⟨goInt n,?_,by rw[H];exact .imm _ _ (.int _ _)⟩;simp[execOp,B,resolve,invoke,builtin,g ρ Im w _ (C.opd l)]
 unfold Kt at h;split at h
 .rename_i e n sz G f;have H:=c.slice f;refine⟨_,h,key _ _ rfl λρ Im w y d=>?_⟩;rcases d.isl_inv with⟨j,_,rfl⟩|⟨b,O,cap,q,F,fr,rfl,_⟩
  .subst j;simp[Builtin.len_,run_underlying H]
  .simp[Builtin.len_,run_underlying H]
 .rename_i e id n f;have H:=c.slice f;refine⟨_,h,key _ _ rfl λρ Im w y d=>?_⟩;obtain⟨_,_,_,rfl⟩:=d.osl_inv;simp[Builtin.len_,run_underlying H]
 .rename_i e id O n sz f;have H:=c.slice f;refine⟨_,h,key _ _ rfl λρ Im w y d=>?_⟩;obtain⟨_,_,_,rfl⟩:=d.osub_inv;simp[Builtin.len_,run_underlying H]
 .rename_i e f;have H:=c.slice f;refine⟨_,h,key _ _ rfl λρ Im w y d=>?_⟩;cases d.nils_inv;simp[Builtin.len_,run_underlying H]
 .rename_i e f;have H:=c.slice f;refine⟨_,h,key _ _ rfl λρ Im w y d=>?_⟩;obtain⟨p,rfl⟩:=d.emp_inv;simp[Builtin.len_,run_underlying H]
 .rename_i s f;have H:=c.str f;refine⟨_,h,key _ _ rfl λρ Im w y d=>?_⟩;cases d.str_inv;simp[Builtin.len_,run_underlying H]
 .exact h.elim
end
def dn(s:Nat->Option AV):List Operand->Option (List AV)
 |[]=>some []
 |x::r=>match cm s x with
  |some v=>match dn s r with
   |some vs=>some (v::vs)
   |none=>none
  |none=>none
def ja:List Operand->List Nat
 |[]=>[]
 |x::r=>di x++ja r
theorem d6{s s':Nat->Option AV}:∀{l:List Operand},(∀k∈ja l,s' k=s k)->dn s' l=dn s l
 |[],_=>rfl
 |x::r,h=>by
  simp only[dn,ja]at *;rw[ay (s:=s) (s':=s') λk H=>h k (by simp[H]),d6 (s:=s) (s':=s') λk H=>h k (by simp[H])]
section
variable {P:Program} {X:Frm} {ops:Array Oper} {T:kb}
theorem RelAt.opds{ρ:Loc}{Im:Nat->Prop}{s:Nat->Option AV}{o:Xd}{a:Act}{w:World}(h:RelAt X ρ Im s o a w):∀{l:List Operand} {V:List AV},dn s l=some V->
  Cons ρ Im w.heap V (l.map a.eval).toArray/\∀v∈V,∀i,Names i v->o i≠none
 |[],V,hv=>by
  simp only[dn,Option.some.injEq]at hv;subst hv;exact⟨⟨rfl,by intro i c x d;simp at d⟩,by simp⟩
 |x::r, V,hv=>by
  simp only[dn]at hv;cases hx:cm s x with
  |none=>simp[hx]at hv
  |some v=>
   cases hr:dn s r with
   |none=>simp[hx,hr]at hv
   |some us=>
    simp only[hx,hr,Option.some.injEq]at hv;subst hv;obtain⟨⟨g,d⟩,j⟩:=RelAt.opds h hr;refine⟨⟨by simpa using g,?_⟩,?_⟩
    .intro i c y H b;cases i with
     |zero=>
      simp at H b;subst H;subst b;exact h.opd hx
     |succ i=>
      simp at H b;exact d i c y H (by simpa using b)
    .intro u e i f;rcases List.mem_cons.1 e with rfl|e
     .exact h.opdN hx f
     .exact j u e i f
theorem Cons.two{ρ:Loc}{Im:Nat->Prop}{H:eZ}{v u:AV}{a:Array Value}(h:Cons ρ Im H [v,u] a):∃x y,a= #[x,y]/\Con ρ Im H v x/\Con ρ Im H u y:=by
 obtain⟨e,c⟩:=h;have b:a.size=2:=by simpa using e
 refine⟨a[0],a[1],?_,c 0 v _ rfl ν,c 1 u _ rfl (by simp[b])⟩;apply Array.ext
 .simp[b]
 .intro i f d;simp at d;rcases i with _|_|i
  .rfl
  .rfl
  .omega
theorem Cons.three{ρ:Loc}{Im:Nat->Prop}{H:eZ}{v u t:AV}{a:Array Value}(h:Cons ρ Im H [v,u,t] a):∃x y z,a= #[x,y,z]/\Con ρ Im H v x/\Con ρ Im H u y/\Con ρ Im H t z:=by
 obtain⟨e,c⟩:=h;have b:a.size=3:=by simpa using e
 refine⟨a[0],a[1],a[2],?_,c 0 v _ rfl ν,c 1 u _ rfl (by simp[b]),c 2 t _ rfl (by simp[b])⟩;apply Array.ext
 .simp[b]
 .intro i f d;simp at d;rcases i with _|_|_|i
  .rfl
  .rfl
  .rfl
  .omega
def Ke(mx:Bool)(v:List AV)(k:AV->Prop):Prop:=match mx,v with
 |true,[.int .i64 x,.int .i64 y]=>k (.int .i64 (max x y))
 |false,[.int .i64 x,.int .i64 y]=>k (.int .i64 (min x y))
 |true,[.int .i64 x,.int .i64 y,.int .i64 z]=>k (.int .i64 (max (max x y) z))
 |_,_=>False
theorem Ch(x y:Int):(if y>x then y else x)=max x y:=Z
theorem Ie(x y:Int):(if y<x then y else x)=min x y:=Z
theorem r9{o:Oper}{mx:Bool}{t:Array TypeId}{args:Array Operand}(r:o.op=.call { callee:=.builtin (if mx then .max else .min),args:=args,argTypes:=t }){A:St}(p:lk ops o A.s)(m:co X.nt o){v:List AV}(C:dn A.s args.toList=some v)
  {k:AV->Prop} (h:Ke mx v k):∃u,k u/\bD P X ops o A.s A.o (dj ops o (ja args.toList) [] u):=by
 have key:∀(u:AV) (n:Int),u=.int .i64 n->(∀(ρ:Loc) (Im:Nat->Prop) (w:World) (f:Array Value),Cons ρ Im w.heap v f->∀cs:Array Bool,(builtin (if mx then .max else .min) t o.type cs f).run P w=.ok (.value (.int .i64 n)) w)->
   bD P X ops o A.s A.o (dj ops o (ja args.toList) [] u):=by
  intro u n j d;refine bh p m λs' B o' ρ Im a w s=>⟨?_,λi q=>by subst j;cases q⟩;have g:dn s' args.toList=some v:=(d6 B).trans C;have H:=d ρ Im w _ (s.opds g).1;refine⟨.int .i64 n,?_,by rw[j];exact .imm _ _ (.int _ _)⟩;have e:(args.toList.map a.eval).toArray=args.map a.eval:=by apply Array.ext';simp
  rw[e]at H;simp only[execOp,r,resolve,invoke,Sem.run_bind,Sem.run_pure,Result.andThen_ok];exact H _
 unfold Ke at h;split at h
 .refine⟨_,h,key _ _ rfl λρ Im w f H cs=>?_⟩;obtain⟨x,y,rfl,b,c⟩:=H.two;cases b.int_inv;cases c.int_inv;simp[builtin,Builtin.max_,Builtin.max2,Ch]
 .refine⟨_,h,key _ _ rfl λρ Im w f H cs=>?_⟩;obtain⟨x,y,rfl,b,c⟩:=H.two;cases b.int_inv;cases c.int_inv;simp[builtin,Builtin.min_,Builtin.min2,Ie]
 .refine⟨_,h,key _ _ rfl λρ Im w f H cs=>?_⟩;obtain⟨x,y,z,rfl,b,c,l⟩:=H.three;cases b.int_inv;cases c.int_inv;cases l.int_inv;simp[builtin,Builtin.max_,Builtin.max2,Ch]
 .exact h.elim
def NF(o:UnOp)(x:AV)(k:AV->Prop):Prop:=match o,x with
 |.not,.bool b=>k (.bool (!b))
 |.neg,.int .i64 n=>Side (ah (-n)) (k (.int .i64 (-n)))
 |_,_=>False
theorem Ci{o:Oper}{l:UnOp}{t:Nat}{x:Operand}(g:o.op=.unOp l t x){A:St}(f:lk ops o A.s)(e:co X.nt o){v:AV}(j:cm A.s x=some v){k:AV->Prop}(h:NF l v k) :
  ∃u,k u/\bD P X ops o A.s A.o (dj ops o (di x) [] u):=by
 unfold NF at h;split at h
 .refine⟨_,h,bh f e λs' d o' ρ Im a w c=>⟨?_,λi b=>by cases b⟩⟩;have H:cm s' x=some _:=(ay d).trans j;refine⟨_,?_,.imm _ _ (.bool _)⟩;simp[execOp,g,(c.opd H).bool_inv,Op.unary]
 .refine⟨_,h.2,bh f e λs' d o' ρ Im a w c=>⟨?_,λi b=>by cases b⟩⟩;have H:cm s' x=some _:=(ay d).trans j;refine⟨_,?_,.imm _ _ (.int _ _)⟩;have m:=kV h.1;simp[execOp,g,(c.opd H).int_inv,Op.unary,Op.intArith,m]
 .exact h.elim
def AC(s d:TI)(x:AV)(k:AV->Prop):Prop:=match s.tk,d.tk,x with
 |.int _,.int .i64,.int _ n=>Side (ah n) (k (.int .i64 n))
 |.int _,.int .u64,.int _ n=>Side (IntKind.u64.wrap n=n) (k (.int .u64 n))
 |_,_,_=>False
theorem xf{o:Oper}{t z:Nat}{x:Operand}(s:o.op=.convert t z x){A:St}(r:lk ops o A.s)(q:co X.nt o){B d:TI}(c:TiOk P t B)(H:TiOk P z d){v:AV}(y:cm A.s x=some v){k:AV->Prop}(h:AC B d v k) :
  ∃u,k u/\bD P X ops o A.s A.o (dj ops o (di x) [] u):=by
 unfold AC at h;split at h
 .rename_i K D n e f;have m:=c.int e;have p:=H.int f;refine⟨_,h.2,bh r q λs' l o' ρ Im a w j=>⟨?_,λi g=>by cases g⟩⟩;have b:cm s' x=some _:=(ay l).trans y;refine⟨_,?_,.imm _ _ (.int _ _)⟩;have C:=kV h.1;simp[execOp,s,(j.opd b).int_inv,convert,run_underlying m,run_underlying p,Conv.intToInt,C]
 .rename_i K D n e f;have m:=c.int e;have p:=H.int f;refine⟨_,h.2,bh r q λs' l o' ρ Im a w j=>⟨?_,λi g=>by cases g⟩⟩;have b:cm s' x=some _:=(ay l).trans y;refine⟨_,?_,.imm _ _ (.int _ _)⟩;simp[execOp,s,(j.opd b).int_inv,convert,run_underlying m,run_underlying p,Conv.intToInt,h.1]
 .exact h.elim
def jD(i:Nat)(x:AV)(k:AV->Prop):Prop:=match x with
 |.tup vs=>match vs[i]? with
  |some v=>k v
  |none=>False
 |_=>False
theorem Con.tup_inv{ρ:Loc}{Im:Nat->Prop}{H:eZ}{v:List AV}{x:Value}(h:Con ρ Im H (.tup v) x):∃a,x=.tuple a/\Cons ρ Im H v a:=by
 cases h with
 |imm _ _ hi=>
  cases hi with
  |tup _ a hl h=>exact⟨a,rfl,hl,λi c x b d=>.imm _ _ (h i c x b d)⟩
 |tup _ a hl h=>exact⟨a,rfl,hl,h⟩
theorem Con.agg_inv{ρ:Loc}{Im:Nat->Prop}{H:eZ}{v:List AV}{x:Value}(h:Con ρ Im H (.agg v) x):∃a,x=.agg a/\Cons ρ Im H v a:=by
 cases h with
 |imm _ _ hi=>
  cases hi with
  |agg _ a hl h=>exact⟨a,rfl,hl,λi c x b d=>.imm _ _ (h i c x b d)⟩
 |agg _ a hl h=>exact⟨a,rfl,hl,h⟩
theorem qU{o:Oper}{i:Nat}{x:Operand}(p:o.op=.extract x i){A:St}(l:lk ops o A.s)(f:co X.nt o){v:AV}(r:cm A.s x=some v){k:AV->Prop}(h:jD i v k) :
  ∃u,k u/\bD P X ops o A.s A.o (dj ops o (di x) [] u):=by
 unfold jD at h;split at h
 .rename_i V;split at h
  .rename_i u b;refine⟨u,h,bh l f λs' q o' ρ Im a w d=>?_⟩;have H:cm s' x=some _:=(ay q).trans r;obtain⟨c,g,t,e⟩:=(d.opd H).tup_inv;have n:i<V.length:=(List.getElem?_eq_some_iff.1 b).1;have s:c[i]? =some (c[i]'Z):=by simp
   refine⟨⟨_,?_,e i u _ b s⟩,λj m=>d.opdN H (.tup _ u (List.mem_of_getElem? b) m)⟩;simp[execOp,p,g,Instr.extract,(Z:i<c.size)]
  .exact h.elim
 .exact h.elim
theorem xg{o:Oper}{f:FuncId}{C:Array Operand}(m:o.op=.makeFunc (.func f) #[] C){A:St}(j:lk ops o A.s)(g:co X.nt o){v:List AV}(q:dn A.s C.toList=some v) :
  bD P X ops o A.s A.o (dj ops o (ja C.toList) [] (.fn f v)):=by
 refine bh j g λs' p o' ρ Im a w n=>?_;have H:dn s' C.toList=some v:=(d6 p).trans q;obtain⟨⟨d,b⟩,l⟩:=n.opds H;have e:(C.toList.map a.eval).toArray=C.map a.eval:=by apply Array.ext';simp
 rw[e]at d b;refine⟨⟨_,?_,.fn f v (C.map a.eval) d b⟩,λi k=>?_⟩
 .simp[execOp,m,Instr.makeFunc]
 .cases k with
  |fn _ _ c hm h=>exact l c hm i h
def rA(T:kb)(t:TI)(x:AV)(lo H:Option AV)(k:AV->Prop):Prop:=match t.tk with
 |.slice e=>match gq T e with
  |some te=>match x,lo,H with
   |.isl n sz get,none,some (.int _ h)=>ck (Nat.beq te.size sz) (Side (0<=h/\h<=n) (k (.isl h.toNat sz get)))
   |.isl n sz get,some (.int _ l),none=>ck (Nat.beq te.size sz) (Side (0<=l/\l<=n) (k (.isl (n-l.toNat) sz λi=>get (l.toNat+i))))
   |.isl n sz get,some (.int _ l),some (.int _ h)=>ck (Nat.beq te.size sz) (Side (0<=l/\l<=h/\h<=n) (k (.isl (h.toNat-l.toNat) sz λi=>get (l.toNat+i))))
   |.osl id n,none,some (.int _ h)=>Side (0<=h/\h<=n) (k (.osl id h.toNat))
   |.osl id n,some (.int _ l),none=>Side (0<=l/\l<=n) (k (.osub id l.toNat (n-l.toNat) te.size))
   |.osl id n,some (.int _ l),some (.int _ h)=>Side (0<=l/\l<=h/\h<=n) (k (.osub id l.toNat (h.toNat-l.toNat) te.size))
   |.osub id off n sz,none,some (.int _ h)=>ck (Nat.beq te.size sz) (Side (0<=h/\h<=n) (k (.osub id off h.toNat sz)))
   |.osub id off n sz,some (.int _ l),none=>ck (Nat.beq te.size sz) (Side (0<=l/\l<=n) (k (.osub id (off+l.toNat) (n-l.toNat) sz)))
   |.osub id off n sz,some (.int _ l),some (.int _ h)=>ck (Nat.beq te.size sz) (Side (0<=l/\l<=h/\h<=n) (k (.osub id (off+l.toNat) (h.toNat-l.toNat) sz)))
   |_,_,_=>False
  |none=>False
 |_=>False
theorem dF{w:World}{t e:Nat}{m:TI}(o:P.underlying t=some (.slice e))(i:TiOk P e m)(a:Option Addr)(n cap:Nat)(lo c:Option Value)(l h:Int)
  (g:lo=none/\l=0\/∃k,lo=some (.int k l)) (f:c=none/\h=n\/∃k,c=some (.int k h)) (j:0<=l) (b:l<=h) (d:h<=cap) :
  (Instr.sliceAt t (.slice a n cap) lo c none).run P w=.ok (.slice (if cap=l.toNat then a else a.map (·.add (l.toNat*m.size))) (h.toNat-l.toNat) (cap-l.toNat)) w:=by
 obtain⟨L,rfl⟩:=ζ j;obtain⟨H,rfl⟩:=ζ (Int.le_trans j b);have b:L<=H:=Z;have d:H<=cap:=Z;simp only[β];have hb:(Instr.sliceBounds true n cap lo c none).run P w=.ok (L,H,cap) w:=by
  rcases g with⟨rfl,E⟩|⟨K,rfl⟩<;>rcases f with⟨rfl,p⟩|⟨q,rfl⟩
  .have:L=0:=Z;have:H=n:=Z;subst_vars;simp[Instr.sliceBounds]
  .have:L=0:=Z;subst_vars;simp[Instr.sliceBounds,Instr.sliceBound,asIntOf,d]
  .have:H=n:=Z;subst_vars;simp[Instr.sliceBounds,Instr.sliceBound,asIntOf,b]
  .simp[Instr.sliceBounds,Instr.sliceBound,asIntOf,d,b]
 simp[Instr.sliceAt,Instr.slice,run_underlying o,hb,i.sizeOf]
def y3(o:Option Operand):List Nat:=match o with |some x=>di x|none=>[]
def lf(s:Nat->Option AV)(o:Option Operand):Option (Option AV):=match o with
 |some x=>match cm s x with |some v=>some (some v)|none=>none
 |none=>some none
theorem cO{s s':Nat->Option AV}{o:Option Operand}(h:∀k∈y3 o,s' k=s k):lf s' o=lf s o:=by
 cases o with
 |none=>rfl
 |some x=>simp only[lf,y3]at *;rw[ay h]
theorem fL{ρ:Loc}{Im:Nat->Prop}{s:Nat->Option AV}{o:Xd}{a:Act}{w:World}(H:RelAt X ρ Im s o a w){x:Option Operand}{k:IntKind}{n:Int}(h:lf s x=some (some (.int k n))):x.map a.eval=some (.int k n):=by
 cases x with
 |none=>simp[lf]at h
 |some y=>
  simp only[lf]at h;cases hy:cm s y with
  |none=>simp[hy]at h
  |some v=>
   simp only[hy,Option.some.injEq]at h;subst h;simp[(H.opd hy).int_inv]
theorem fT{s:Nat->Option AV}{x:Option Operand}(h:lf s x=some none):x=none:=by
 cases x with
 |none=>rfl
 |some y=>
  simp only[lf]at h;cases hy:cm s y<;>simp[hy]at h
theorem If{ρ:Loc}{Im:Nat->Prop}{H:eZ}{n sz:Nat}{g:Nat->List AV}{x:Value}(w:Con ρ Im H (.isl n sz g) x)(l h:Nat)(q:l<=h)(r:h<=n) :
  ∃a cap,x=.slice a n cap/\n<=cap/\Con ρ Im H (.isl (h-l) sz λi=>g (l+i)) (.slice (if cap=l then a else a.map (·.add (l*sz))) (h-l) (cap-l)):=by
 rcases w.isl_inv with⟨k,p,rfl⟩|⟨b,o,cap,A,T,fr,rfl,d,hb,m,k,u,s,v⟩
 .subst k;have:h=0:=Z;have:l=0:=Z;subst_vars;exact⟨p,0,rfl,π _,by simpa using .imm _ _ (.isl0 _ _ _)⟩
 .refine⟨_,cap,rfl,k,?_⟩;have t:(h-l)*sz+l*sz<=n*sz:=by
   rw[<-Nat.add_mul];exact Nat.mul_le_mul_right _ Z
  split
  .rename_i hcl;have e:h-l=0:=Z;rw[e];exact .imm _ _ (.isl 0 sz _ b o _ A T fr d hb (λi f=>Z) Z (by simp[th]) Z (λi j c x f=>Z))
  .simp only[Option.map_some,Addr.add_lit];refine .imm _ _ (.isl _ sz _ b (o+l*sz) _ A T fr d hb (λi f=>m _ Z) Z Z Z λi j c x f q r=>?_);refine v (l+i) j c x Z q ?_;rw[<-r];congr 1;rw[Nat.add_mul];omega
theorem uU(hT:fK P T){F:Oper}{t:Nat}{x:Operand}{lo z:Option Operand}(ho:F.op=.slice t x lo z none){A:St}(hg:lk ops F A.s)(hd:co X.nt F){ti:TI}(hti:TiOk P t ti){v:AV}{Q V:Option AV}
  (hv:cm A.s x=some v) (L:lf A.s lo=some Q) (I:lf A.s z=some V) {k:AV->Prop} (h:rA T ti v Q V k):∃u,k u/\bD P X ops F A.s A.o (dj ops F (di x++y3 lo++y3 z) [] u):=by
 unfold rA at h;split at h
 .rename_i e g;have hu:=hti.slice g;split at h
  .rename_i C B;have B:=hT e C B;have S:∀(n sz:Nat) (G:Nat->List AV) (l r:Int),C.size=sz->v=.isl n sz G->(Q=none/\l=0\/∃k,Q=some (.int k l))->(V=none/\r=n\/∃k,V=some (.int k r))->0<=l->l<=r->r<=n->
     bD P X ops F A.s A.o (dj ops F (di x++y3 lo++y3 z) [] (.isl (r.toNat-l.toNat) sz λi=>G (l.toNat+i))):=by
    clear h;intro n sz G l r hsz D hl s m o N;subst hsz;rw[D]at hv;refine bh hg hd λs' H o' ρ Im a w y=>⟨?_,λi hn=>by cases hn⟩;have q:cm s' x=some _:=(ay λk g=>H k (by simp[g])).trans hv;have d:lf s' lo=some _:=(cO λk g=>H k (by simp[g])).trans L;have c:lf s' z=some _:=(cO λk g=>H k (by simp[g])).trans I;obtain⟨ad,cap,R,hcap,hcon⟩:=If (y.opd q) l.toNat r.toNat Z Z;refine⟨_,?_,hcon⟩;have f:=dF (P:=P) (w:=w) hu B ad n cap (lo.map a.eval) (z.map a.eval) l r
     (by rcases hl with ⟨rfl,rfl⟩ | ⟨E,rfl⟩
         .exact .inl ⟨by rw[fT d];rfl,rfl⟩
         .exact .inr ⟨E,fL y d⟩)
     (by rcases s with ⟨rfl,rfl⟩ | ⟨E,rfl⟩
         .exact .inl ⟨by rw[fT c];rfl,rfl⟩
         .exact .inr ⟨E,fL y c⟩) m o Z
    simp[execOp,ho,R,f]
   have D2:∀(id n:Nat) (l r:Int),v=.osl id n->(Q=none/\l=0\/∃k,Q=some (.int k l))->(V=none/\r=n\/∃k,V=some (.int k r))->0<=l->l<=r->r<=n->
     bD P X ops F A.s A.o (dj ops F (di x++y3 lo++y3 z) [] (.osub id l.toNat (r.toNat-l.toNat) C.size)):=by
    clear h;intro id n l r D hl s m o N;rw[D]at hv;refine bh hg hd λs' H o' ρ Im a w y=>?_;have q:cm s' x=some _:=(ay λk g=>H k (by simp[g])).trans hv;have d:lf s' lo=some _:=(cO λk g=>H k (by simp[g])).trans L;have c:lf s' z=some _:=(cO λk g=>H k (by simp[g])).trans I;obtain⟨hbd,W,hnc,R⟩:=(y.opd q).osl_inv;have f:=dF (P:=P) (w:=w) hu B ((ρ id).1.map λb=>⟨b,0,none⟩) n (ρ id).2 (lo.map a.eval) (z.map a.eval) l r
     (by rcases hl with ⟨rfl,rfl⟩ | ⟨E,rfl⟩
         .exact .inl ⟨by rw[fT d];rfl,rfl⟩
         .exact .inr ⟨E,fL y d⟩)
     (by rcases s with ⟨rfl,rfl⟩ | ⟨E,rfl⟩
         .exact .inl ⟨by rw[fT c];rfl,rfl⟩
         .exact .inr ⟨E,fL y c⟩) m o Z
    refine⟨⟨.slice (if(ρ id).2=l.toNat then(ρ id).1.map λb=>(⟨b,0,none⟩:Addr)else((ρ id).1.map λb=>(⟨b,0,none⟩:Addr)).map (·.add (l.toNat*C.size))) (r.toNat-l.toNat) ((ρ id).2-l.toNat),?_,.osub id _ _ _ _ _ Z (λhz=>?_) Z⟩,λj hj=>by cases hj;exact y.opdN q (.osl _)⟩
    .simp[execOp,ho,R,f]
    .obtain⟨b,hb⟩:=Option.ne_none_iff_exists'.1 (W Z);refine⟨b,hb,?_⟩;rw[if_neg Z,hb];simp[Addr.add_lit]
   have y4:∀(id O n sz:Nat) (l r:Int),C.size=sz->v=.osub id O n sz->(Q=none/\l=0\/∃k,Q=some (.int k l))->(V=none/\r=n\/∃k,V=some (.int k r))->0<=l->l<=r->r<=n->
     bD P X ops F A.s A.o (dj ops F (di x++y3 lo++y3 z) [] (.osub id (O+l.toNat) (r.toNat-l.toNat) sz)):=by
    clear h;intro id O n sz l r hsz D hl s m o N;subst hsz;rw[D]at hv;refine bh hg hd λs' H o' ρ Im a w y=>?_;have q:cm s' x=some _:=(ay λk g=>H k (by simp[g])).trans hv;have d:lf s' lo=some _:=(cO λk g=>H k (by simp[g])).trans L;have c:lf s' z=some _:=(cO λk g=>H k (by simp[g])).trans I;obtain⟨cap,p,hbd,hnc,hp,R⟩:=(y.opd q).osub_inv';have f:=dF (P:=P) (w:=w) hu B p n cap (lo.map a.eval) (z.map a.eval) l r
     (by rcases hl with ⟨rfl,rfl⟩ | ⟨E,rfl⟩
         .exact .inl ⟨by rw[fT d];rfl,rfl⟩
         .exact .inr ⟨E,fL y d⟩)
     (by rcases s with ⟨rfl,rfl⟩ | ⟨E,rfl⟩
         .exact .inl ⟨by rw[fT c];rfl,rfl⟩
         .exact .inr ⟨E,fL y c⟩) m o Z
    refine⟨⟨.slice (if cap=l.toNat then p else p.map (·.add (l.toNat*C.size))) (r.toNat-l.toNat) (cap-l.toNat),?_,.osub id _ _ _ _ _ Z (λhz=>?_) Z⟩,λj hj=>by cases hj;exact y.opdN q (.osub _ _ _)⟩
    .simp[execOp,ho,R,f]
    .obtain⟨b,hb,rfl⟩:=hp Z;refine⟨b,hb,?_⟩;rw[if_neg Z];simp[Addr.add_lit,Nat.add_mul]
   split at h
   .rename_i n sz G K s;obtain⟨H,⟨m,o⟩,h⟩:=be h;have H:C.size=sz:=Nat.eq_of_beq_eq_true H;have:=S n sz G 0 s H rfl (.inl ⟨rfl,rfl⟩) (.inr ⟨K,rfl⟩) (Int.le_refl _) m o;simp only[Int.toNat_zero,Nat.sub_zero,Nat.zero_add]at this;exact⟨_,h,this⟩
   .rename_i n sz G K l;obtain⟨H,⟨m,o⟩,h⟩:=be h;have H:C.size=sz:=Nat.eq_of_beq_eq_true H;have:=S n sz G l n H rfl (.inr ⟨K,rfl⟩) (.inl ⟨rfl,rfl⟩) m o (Int.le_refl _);simp only[β]at this;exact⟨_,h,this⟩
   .rename_i n sz G K l kj s;obtain⟨H,⟨m,o,N⟩,h⟩:=be h;have H:C.size=sz:=Nat.eq_of_beq_eq_true H;exact⟨_,h,S n sz G l s H rfl (.inr ⟨K,rfl⟩) (.inr ⟨kj,rfl⟩) m o N⟩
   .rename_i id n K s;obtain⟨⟨m,o⟩,h⟩:=h;refine⟨_,h,bh hg hd λs' H o' ρ Im a w y=>?_⟩;have q:cm s' x=some _:=(ay λk g=>H k (by simp[g])).trans hv;have d:lf s' lo=some _:=(cO λk g=>H k (by simp[g])).trans L;have c:lf s' z=some _:=(cO λk g=>H k (by simp[g])).trans I;obtain⟨hbd,W,hnc,R⟩:=(y.opd q).osl_inv;have f:=dF (P:=P) (w:=w) hu B ((ρ id).1.map λb=>⟨b,0,none⟩) n (ρ id).2 (lo.map a.eval) (z.map a.eval) 0 s (.inl ⟨by rw[fT d];rfl,rfl⟩) (.inr ⟨K,fL y c⟩) (Int.le_refl _) m Z;refine⟨⟨.slice ((ρ id).1.map λb=>⟨b,0,none⟩) s.toNat (ρ id).2,?_,.osl id _ Z (λhz=>W Z) Z⟩,λj hj=>by cases hj;exact y.opdN q (.osl _)⟩;have e2:(if(ρ id).2=0 then(ρ id).1.map λb=>(⟨b,0,none⟩:Addr)else((ρ id).1.map λb=>(⟨b,0,none⟩:Addr)).map (·.add (0*C.size)))=(ρ id).1.map λb=>(⟨b,0,none⟩:Addr):=by
     split
     .rfl
     .cases (ρ id).1<;>simp[Addr.add]
    simp only[Int.toNat_zero,Nat.sub_zero,e2]at f;simp[execOp,ho,R,f]
   .rename_i id n K l;obtain⟨⟨m,o⟩,h⟩:=h;have:=D2 id n l n rfl (.inr ⟨K,rfl⟩) (.inl ⟨rfl,rfl⟩) m o (Int.le_refl _);simp only[β]at this;exact⟨_,h,this⟩
   .rename_i id n K l kj s;obtain⟨⟨m,o,N⟩,h⟩:=h;exact⟨_,h,D2 id n l s rfl (.inr ⟨K,rfl⟩) (.inr ⟨kj,rfl⟩) m o N⟩
   .rename_i id O n sz K s;obtain⟨H,⟨m,o⟩,h⟩:=be h;have H:C.size=sz:=Nat.eq_of_beq_eq_true H;have:=y4 id O n sz 0 s H rfl (.inl ⟨rfl,rfl⟩) (.inr ⟨K,rfl⟩) (Int.le_refl _) m o;simp only[Int.toNat_zero,Nat.sub_zero,Nat.add_zero]at this;exact⟨_,h,this⟩
   .rename_i id O n sz K l;obtain⟨H,⟨m,o⟩,h⟩:=be h;have H:C.size=sz:=Nat.eq_of_beq_eq_true H;have:=y4 id O n sz l n H rfl (.inr ⟨K,rfl⟩) (.inl ⟨rfl,rfl⟩) m o (Int.le_refl _);simp only[β]at this;exact⟨_,h,this⟩
   .rename_i id O n sz K l kj s;obtain⟨H,⟨m,o,N⟩,h⟩:=be h;have H:C.size=sz:=Nat.eq_of_beq_eq_true H;exact⟨_,h,y4 id O n sz l s H rfl (.inr ⟨K,rfl⟩) (.inr ⟨kj,rfl⟩) m o N⟩
   .exact h.elim
  .exact h.elim
 .exact h.elim
def OO:Operand->Bool
 |.const _=>true
 |_=>false
def mB(c:Bool)(t:TI)(x H mx:AV)(k:AV->Prop):Prop:=match c with
 |true=>match t.tk with
  |.slice _=>match H,mx with
   | .int _ h,.int _ m=>Side (h = 0/\m = 0) (match x with
    |.isl _ _ _=>k .emp
    |.osl _ _=>k .emp
    |.osub _ _ _ _=>k .emp
    |.nils=>k .emp
    |.emp=>k .emp
    |_=>False)
   |_,_=>False
  |_=>False
 |false=>match t.tk with
  |.slice _=>match x,H,mx with
   |.isl n sz get,.int _ h,.int _ m=>Side (h=n/\m=n/\0<n) (k (.icap n sz get))
   |_,_,_=>False
  |_=>False
theorem qV{w:World}{t e:Nat}(c:P.underlying t=some (.slice e)){d:TI}(h:TiOk P e d)(a:Addr)(n cap:Nat)(f:0<n)(b:n<=cap)(k K:IntKind) :
  (Instr.sliceAt t (.slice (some a) n cap) none (some (.int k n)) (some (.int K n))).run P w=.ok (.slice (some a) n n) w:=by
 have hb:(Instr.sliceBounds true n cap none (some (.int k n)) (some (.int K n))).run P w=.ok (0,n,n) w:=by
  simp[Instr.sliceBounds,Instr.sliceBound,asIntOf,b]
 have H:¬n=0:=Z;simp[Instr.sliceAt,Instr.slice,run_underlying c,hb,h.sizeOf,H,Addr.add]
theorem nR{w:World}{t e:Nat}(H:P.underlying t=some (.slice e)){b:TI}(h:TiOk P e b)(a:Option Addr)(n cap:Nat)(k K:IntKind) :
  ∃q,(Instr.sliceAt t (.slice a n cap) none (some (.int k 0)) (some (.int K 0))).run P w=.ok (.slice q 0 0) w:=by
 have hb:(Instr.sliceBounds true n cap none (some (.int k 0)) (some (.int K 0))).run P w=.ok (0,0,0) w:=by
  simp[Instr.sliceBounds,Instr.sliceBound,asIntOf]
 simp[Instr.sliceAt,Instr.slice,run_underlying H,hb,h.sizeOf]
theorem tn{B:Bool}(hT:fK P T){s:Oper}{t:Nat}{x m mx:Operand}(ho:s.op=.slice t x none (some m) (some mx)){A:St}(hg:lk ops s A.s)(hd:co X.nt s){ti:TI}(E:TiOk P t ti)(d:∀e,ti.tk=.slice e->∃I,gq T e=some I){v vh vm:AV}
  (hv:cm A.s x=some v) (F:cm A.s m=some vh) (G:cm A.s mx=some vm) {k:AV->Prop} (h:mB B ti v vh vm k):∃u,k u/\bD P X ops s A.s A.o (dj ops s (di x++di m++di mx) [] u):=by
 unfold mB at h;cases B with
 |false =>
  dsimp only at h;split at h
  .rename_i e f;have hu:=E.slice f;obtain⟨I,d⟩:=d e f;have d:=hT e I d;split at h
   .rename_i n sz R kh hh km mm;obtain⟨⟨rfl,rfl,z⟩,h⟩:=h;refine⟨_,h,bh hg hd λs' p o' ρ Im a w o=>⟨?_,λi z=>by cases z⟩⟩;have r:cm s' x=some _:=(ay λk f=>p k (by simp[f])).trans hv;have g:cm s' m=some _:=(ay λk f=>p k (by simp[f])).trans F;have j:cm s' mx=some _:=(ay λk f=>p k (by simp[f])).trans G;have N:=(o.opd g).int_inv;have Q:=(o.opd j).int_inv;rcases(o.opd r).isl_inv with⟨h0,_⟩|⟨b,O,cap,K,T',fr,L,W,hb,hsz,hnc,S,D,V⟩
    .omega
    .have hq:=qV (P:=P) (w:=w) hu d ⟨b,O,none⟩ n cap z hnc kh km;refine⟨.slice (some ⟨b,O,none⟩) n n,?_,.imm _ _ (.icap n sz R b O K T' fr W hb hsz z S D V)⟩;simp[execOp,ho,L,N,Q,hq]
   .exact h.elim
  .exact h.elim
 |true=>
 dsimp only at h;split at h
 .rename_i e f;have hu:=E.slice f;obtain⟨I,d⟩:=d e f;have d:=hT e I d;split at h
  .rename_i kh hh km mm;obtain⟨⟨rfl,rfl⟩,h⟩:=h;have C:(∀(ρ:Loc) (Im:Nat->Prop) (H:eZ) (y:Value),Con ρ Im H v y->∃a n c,y=.slice a n c)->bD P X ops s A.s A.o (dj ops s (di x++di m++di mx) [] .emp):=by
    intro hsl;refine bh hg hd λs' p o' ρ Im a w o=>⟨?_,λi z=>by cases z⟩;have r:cm s' x=some _:=(ay λk f=>p k (by simp[f])).trans hv;have g:cm s' m=some _:=(ay λk f=>p k (by simp[f])).trans F;have j:cm s' mx=some _:=(ay λk f=>p k (by simp[f])).trans G;obtain⟨ad,n,c,L⟩:=hsl _ _ _ _ (o.opd r);have N:=(o.opd g).int_inv;have Q:=(o.opd j).int_inv;obtain⟨q,hq⟩:=nR (P:=P) (w:=w) hu d ad n c kh km;refine⟨.slice q 0 0,?_,.imm _ _ (.emp q)⟩;simp[execOp,ho,L,N,Q,hq]
   split at h
   .refine⟨_,h,C λρ Im H y l=>?_⟩;cases l with
    |imm _ _ m=>cases m<;>exact⟨_,_,_,rfl⟩
   .refine⟨_,h,C λρ Im H y l=>?_⟩;obtain⟨_,_,_,rfl⟩:=l.osl_inv;exact⟨_,_,_,rfl⟩
   .refine⟨_,h,C λρ Im H y l=>?_⟩;obtain⟨_,_,_,rfl⟩:=l.osub_inv;exact⟨_,_,_,rfl⟩
   .refine⟨_,h,C λρ Im H y l=>?_⟩;cases l.nils_inv;exact⟨_,_,_,rfl⟩
   .refine⟨_,h,C λρ Im H y l=>?_⟩;obtain⟨_,rfl⟩:=l.emp_inv;exact⟨_,_,_,rfl⟩
   .exact h.elim
  .exact h.elim
 .exact h.elim
end
end Go.Nc