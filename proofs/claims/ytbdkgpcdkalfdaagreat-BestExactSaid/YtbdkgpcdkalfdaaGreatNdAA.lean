/- Parts. -/
import Derived.Orders
import Derived.Laws.AppendOwn
import Derived.OrdersIn
import Derived.IntWalk
import Derived.Laws.Slices
import Derived.Laws.Small
import Derived.Lib.SliceRun
namespace Go.Nc
theorem Z{p:Prop}(h:p:=by omega):p:=h
theorem κ{p:Prop}(h:p:=by dsimp only;omega):p:=h
theorem η{p:Prop}(h:p:=by decide):p:=h
theorem ν{p:Prop}(h:p:=by simp):p:=h
theorem ψ{p:Nat->Prop}(i:Nat)(h:i<0):p i:=absurd h (Nat.not_lt_zero i)
theorem γ{α:Type}{l:List α}{i:Nat}{a:α}:l.getD i a=(l[i]?).getD a:=List.getD_eq_getElem?_getD
theorem ζ{a:Int}(h:0<=a):∃n:Nat,a=n:=Int.eq_ofNat_of_zero_le h
theorem ξ(a b:Nat):a<b\/a>=b:=Nat.lt_or_ge a b
theorem π(n:Nat):n<=n:=Nat.le_refl n
theorem χ(n:Nat):0<=n:=Nat.zero_le n
theorem β(n:Nat):(n:Int).toNat=n:=rfl
theorem υ{α:Type}{l:List α}{i:Nat}(h:i<l.length):l[i]? =some l[i]:=List.getElem?_eq_getElem h
inductive AV where
 |int (k:IntKind) (n:Int)
 |bool (b:Bool)
 |str (s:ByteArray)
 |junk
 |fn (f:FuncId) (caps:List AV)
 |isl (n sz:Nat) (get:Nat->List AV)
 |icap (n sz:Nat) (get:Nat->List AV)
 |eptr (n sz:Nat) (get:Nat->List AV) (i j:Nat)
 |ibox (cells:List AV) (off:Nat)
 |nils
 |emp
 |niface
 |nfunc
 |nptr
 |nmap
 |iface (t:TypeId) (v:AV)
 |agg (cs:List AV)
 |tup (vs:List AV)
 |lptr (id off:Nat)
 |osl (id n:Nat)
 |osub (id off n sz:Nat)
 |optr (id sz i j:Nat)
 |mref (id:Nat)
 |yld (id:Nat)
abbrev eZ:=Array Obj
def th:Nat:=9223372036854775807
def f8:Nat:=140737488355328
theorem tj{n:Nat}(h:n<=f8):n<=th:=by unfold f8 at h;unfold th;omega
inductive ConI(Im:Nat->Prop)(H:eZ):AV->Value->Prop
 |int (k n):ConI Im H (.int k n) (.int k n)
 |bool (b):ConI Im H (.bool b) (.bool b)
 |str (s):ConI Im H (.str s) (.string s)
 |junk (x):ConI Im H .junk x
 |nils:ConI Im H .nils (.slice none 0 0)
 |emp (p):ConI Im H .emp (.slice p 0 0)
 |niface:ConI Im H .niface .nilIface
 |nfunc:ConI Im H .nfunc .nilFunc
 |nptr:ConI Im H .nptr (.pointer none)
 |nmap:ConI Im H .nmap (.map none)
 |iface (t v x):ConI Im H v x->ConI Im H (.iface t v) (.iface t x)
 |fn (f caps) (xs:Array Value) (hl:xs.size=caps.length) (h:∀(i:Nat) (c:AV) (x:Value),caps[i]? =some c->xs[i]? =some x->ConI Im H c x):ConI Im H (.fn f caps) (.func (.func f) #[] xs)
 |agg (cs) (xs:Array Value) (hl:xs.size=cs.length) (h:∀(i:Nat) (c:AV) (x:Value),cs[i]? =some c->xs[i]? =some x->ConI Im H c x):ConI Im H (.agg cs) (.agg xs)
 |tup (cs) (xs:Array Value) (hl:xs.size=cs.length) (h:∀(i:Nat) (c:AV) (x:Value),cs[i]? =some c->xs[i]? =some x->ConI Im H c x):ConI Im H (.tup cs) (.tuple xs)
 |isl0 (sz get p):ConI Im H (.isl 0 sz get) (.slice p 0 0)
 |isl (n sz get b off cap) (arr:Array Value) (T fr) (him:Im b) (hb:H[b]? =some (.cells arr T fr)) (hsz:∀i,i<n->(get i).length=sz) (hn:n<=cap) (hbd:n<=th)
   (hfit:off+n*sz<=arr.size) (h:∀(i j:Nat) (c:AV) (x:Value),i<n->(get i)[j]? =some c->arr[off+i*sz+j]? =some x->ConI Im H c x):ConI Im H (.isl n sz get) (.slice (some ⟨b,off,none⟩) n cap)
 |icap (n sz get b off) (arr:Array Value) (T fr) (him:Im b) (hb:H[b]? =some (.cells arr T fr)) (hsz:∀i,i<n->(get i).length=sz) (hn:0<n) (hbd:n<=th)
   (hfit:off+n*sz<=arr.size) (h:∀(i j:Nat) (c:AV) (x:Value),i<n->(get i)[j]? =some c->arr[off+i*sz+j]? =some x->ConI Im H c x):ConI Im H (.icap n sz get) (.slice (some ⟨b,off,none⟩) n n)
 |eptr (n sz get i j b off) (arr:Array Value) (T fr) (him:Im b) (hb:H[b]? =some (.cells arr T fr)) (hsz:∀i,i<n->(get i).length=sz)
   (hfit:off+n*sz<=arr.size) (h:∀(i j:Nat) (c:AV) (x:Value),i<n->(get i)[j]? =some c->arr[off+i*sz+j]? =some x->ConI Im H c x) (hi:i<n):ConI Im H (.eptr n sz get i j) (.pointer (some ⟨b,off+i*sz+j,none⟩))
 |ibox (cells off b) (arr:Array Value) (T fr) (him:Im b) (hb:H[b]? =some (.cells arr T fr)) (hl:arr.size=cells.length)
   (h:∀(i:Nat) (c:AV) (x:Value),cells[i]? =some c->arr[i]? =some x->ConI Im H c x):ConI Im H (.ibox cells off) (.pointer (some ⟨b,off,none⟩))
theorem ConI.mono{Im I:Nat->Prop}{H d:eZ}(c:∀b,Im b->I b)(a:∀b,Im b->d[b]? =H[b]?){v:AV}{x:Value}(h:ConI Im H v x):ConI I d v x:=by
 induction h with
 |int|bool|str|junk|nils|emp|niface|nfunc|nptr|nmap|isl0=>constructor
 |iface _ _ _ _ ih=>exact .iface _ _ _ ih
 |fn f caps xs hl _ ih=>exact .fn f caps xs hl ih
 |agg cs xs hl _ ih=>exact .agg cs xs hl ih
 |tup cs xs hl _ ih=>exact .tup cs xs hl ih
 |isl n sz get b off cap arr T fr him hb hsz hn hbd hfit _ ih=>exact .isl n sz get b off cap arr T fr (c _ him) ((a _ him).trans hb) hsz hn hbd hfit ih
 |icap n sz get b off arr T fr him hb hsz hn hbd hfit _ ih=>exact .icap n sz get b off arr T fr (c _ him) ((a _ him).trans hb) hsz hn hbd hfit ih
 |eptr n sz get i j b off arr T fr him hb hsz hfit _ hi ih=>exact .eptr n sz get i j b off arr T fr (c _ him) ((a _ him).trans hb) hsz hfit ih hi
 |ibox cells off b arr T fr him hb hl _ ih=>exact .ibox cells off b arr T fr (c _ him) ((a _ him).trans hb) hl ih
abbrev Loc:=Nat->Option Nat×Nat
inductive Con(ρ:Loc)(Im:Nat->Prop)(H:eZ):AV->Value->Prop
 |imm (v x) (h:ConI Im H v x):Con ρ Im H v x
 |lptr (id off b) (h:(ρ id).1=some b):Con ρ Im H (.lptr id off) (.pointer (some ⟨b,off,none⟩))
 |osl (id n) (hbd:n<=f8) (hne:n≠0->(ρ id).1≠none) (hnc:n<=(ρ id).2):Con ρ Im H (.osl id n) (.slice ((ρ id).1.map λb=>⟨b,0,none⟩) n (ρ id).2)
 |osub (id off n sz cap) (p:Option Addr) (hbd:n<=f8) (hp:n≠0->∃b,(ρ id).1=some b/\p=some ⟨b,off*sz,none⟩) (hnc:n<=cap):Con ρ Im H (.osub id off n sz) (.slice p n cap)
 |optr (id sz i j b) (h:(ρ id).1=some b):Con ρ Im H (.optr id sz i j) (.pointer (some ⟨b,i*sz+j,none⟩))
 |mref (id b) (h:(ρ id).1=some b):Con ρ Im H (.mref id) (.map (some b))
 |yld (id b) (h:(ρ id).1=some b):Con ρ Im H (.yld id) (.func (.yield b) #[] #[])
 |fn (f caps) (xs:Array Value) (hl:xs.size=caps.length) (h:∀(i:Nat) (c:AV) (x:Value),caps[i]? =some c->xs[i]? =some x->Con ρ Im H c x):Con ρ Im H (.fn f caps) (.func (.func f) #[] xs)
 |agg (cs) (xs:Array Value) (hl:xs.size=cs.length) (h:∀(i:Nat) (c:AV) (x:Value),cs[i]? =some c->xs[i]? =some x->Con ρ Im H c x):Con ρ Im H (.agg cs) (.agg xs)
 |tup (cs) (xs:Array Value) (hl:xs.size=cs.length) (h:∀(i:Nat) (c:AV) (x:Value),cs[i]? =some c->xs[i]? =some x->Con ρ Im H c x):Con ρ Im H (.tup cs) (.tuple xs)
theorem Con.mono{ρ:Loc}{Im I:Nat->Prop}{H a:eZ}(d:∀b,Im b->I b)(c:∀b,Im b->a[b]? =H[b]?){v:AV}{x:Value}(h:Con ρ Im H v x):Con ρ I a v x:=by
 induction h with
 |imm v x h=>exact .imm v x (h.mono d c)
 |lptr id off b h=>exact .lptr id off b h
 |osl id n hbd hne hnc=>exact .osl id n hbd hne hnc
 |osub id off n sz cap p h1 h2 h3=>exact .osub id off n sz cap p h1 h2 h3
 |optr id sz i j b h=>exact .optr id sz i j b h
 |mref id b h=>exact .mref id b h
 |yld id b h=>exact .yld id b h
 |fn f caps xs hl _ ih=>exact .fn f caps xs hl ih
 |agg cs xs hl _ ih=>exact .agg cs xs hl ih
 |tup cs xs hl _ ih=>exact .tup cs xs hl ih
def Cons(ρ:Loc)(Im:Nat->Prop)(H:eZ)(cs:List AV)(X:Array Value):Prop :=
 X.size=cs.length/\∀(i:Nat) (c:AV) (x:Value),cs[i]? =some c->X[i]? =some x->Con ρ Im H c x
inductive Names(id:Nat):AV->Prop
 |lptr (off):Names id (.lptr id off)
 |osl (n):Names id (.osl id n)
 |osub (off n sz):Names id (.osub id off n sz)
 |optr (sz i j):Names id (.optr id sz i j)
 |mref:Names id (.mref id)
 |yld:Names id (.yld id)
 |fn (f caps c) (hm:c∈caps) (h:Names id c):Names id (.fn f caps)
 |agg (cs c) (hm:c∈cs) (h:Names id c):Names id (.agg cs)
 |tup (cs c) (hm:c∈cs) (h:Names id c):Names id (.tup cs)
theorem Con.reloc{ρ k:Loc}{Im:Nat->Prop}{H:eZ}{v:AV}{x:Value}(h:Con ρ Im H v x)(a:∀id,Names id v->k id=ρ id):Con k Im H v x:=by
 induction h with
 |imm v x h=>exact .imm v x h
 |lptr id off b h=>exact .lptr id off b (by rw[a id (.lptr off)];exact h)
 |osl id n hbd hne hnc=>rw[<-a id (.osl n)]at hne hnc⊢;exact .osl id n hbd hne hnc
 |osub id off n sz cap p h1 h2 h3=>exact .osub id off n sz cap p h1 (by rw[a id (.osub off n sz)];exact h2) h3
 |optr id sz i j b h=>exact .optr id sz i j b (by rw[a id (.optr sz i j)];exact h)
 |mref id b h=>exact .mref id b (by rw[a id .mref];exact h)
 |yld id b h=>exact .yld id b (by rw[a id .yld];exact h)
 |fn f caps xs hl _ ih=>exact .fn f caps xs hl λi c x d g=>ih i c x d g λid e=>a id (.fn f caps c (List.mem_of_getElem? d) e)
 |agg cs xs hl _ ih=>exact .agg cs xs hl λi c x d g=>ih i c x d g λid e=>a id (.agg cs c (List.mem_of_getElem? d) e)
 |tup cs xs hl _ ih=>exact .tup cs xs hl λi c x d g=>ih i c x d g λid e=>a id (.tup cs c (List.mem_of_getElem? d) e)
inductive LObj where
 |box (cells:List AV)
 |arr (n sz:Nat) (get:Nat->List AV) (T:TypeId)
 |map (kvs:List (AV×AV))
 |lrec (st:LoopState) (pe:Option Code) (ks:List Nat) (cs:List AV) (ps:Array Tmp) (assign body:Code) (nt:Nat)
 |dead
abbrev Xa:=List (List Int)
abbrev Xb:=List (Nat×Option LObj)
abbrev Xc:=List (Nat×LObj)
abbrev Xd:=Nat->Option LObj
def LObj.live:LObj->Bool
 |.dead=>false
 |_=>true
def LObj.isRec:LObj->Bool
 |.lrec ..=>true
 |_=>false
inductive NamesO(id:Nat):LObj->Prop
 |box (cells c) (hm:c∈cells) (h:Names id c):NamesO id (.box cells)
 |arr (n sz get T i c) (hi:i<n) (hm:c∈get i) (h:Names id c):NamesO id (.arr n sz get T)
 |mapK (kvs k v) (hm:(k,v)∈kvs) (h:Names id k):NamesO id (.map kvs)
 |mapV (kvs k v) (hm:(k,v)∈kvs) (h:Names id v):NamesO id (.map kvs)
 |lrec (st pe ks cs ps assign body nt c) (hm:c∈cs) (h:Names id c):NamesO id (.lrec st pe ks cs ps assign body nt)
structure RecOk(r:Loop)(st:LoopState)(pe:Option Code)(ks:List Nat)(cs:List AV)(ps:Array Tmp)(assign body:Code)(nt:Nat):Prop where
 st:r.state=st
 pe:r.pending=pe
 ps:r.params=ps
 assign:r.assign=assign
 body:r.body=body
 nt:r.tmps.size=nt
 len:ks.length=cs.length
inductive ObjCon(ρ:Loc)(Im:Nat->Prop)(H:eZ)(id:Nat):LObj->Prop
 |dead:ObjCon ρ Im H id .dead
 |box (cells b) (xs:Array Value) (T) (hρ:(ρ id).1=some b) (hb:H[b]? =some (.cells xs T (0,0))) (hc:Cons ρ Im H cells xs):ObjCon ρ Im H id (.box cells)
 |arr0 (sz get T) (hρ:ρ id=(none,0)):ObjCon ρ Im H id (.arr 0 sz get T)
 |arr (n sz get T b) (xs:Array Value) (hρ:(ρ id).1=some b) (hb:H[b]? =some (.cells xs T (0,0))) (hn:n<=(ρ id).2) (hcap:(ρ id).2<=maxLen) (hxs:xs.size=(ρ id).2*sz)
   (hbd:n<=f8) (hsz:∀i,i<n->(get i).length=sz)
   (hc:∀(i j:Nat) (c:AV) (x:Value),i<n->(get i)[j]? =some c->xs[i*sz+j]? =some x->Con ρ Im H c x):ObjCon ρ Im H id (.arr n sz get T)
 |map (kvs b) (es:Array MapEntry) (clock) (hρ:(ρ id).1=some b) (hb:H[b]? =some (.map es clock)) (hl:es.size=kvs.length)
   (hc:∀(i:Nat) (k v:AV) (e:MapEntry),kvs[i]? =some (k,v)->es[i]? =some e->Con ρ Im H k e.key/\Con ρ Im H v e.val):ObjCon ρ Im H id (.map kvs)
 |lrec (st pe ks cs ps assign body nt b) (r:Loop) (hρ:(ρ id).1=some b) (hb:H[b]? =some (.loop r)) (hr:RecOk r st pe ks cs ps assign body nt)
   (hc:∀(i k:Nat) (c:AV),ks[i]? =some k->cs[i]? =some c->∃x,r.tmps[k]? =some x/\Con ρ Im H c x):ObjCon ρ Im H id (.lrec st pe ks cs ps assign body nt)
structure World0 extends World where
 ro:Option Nat
 deriving Inhabited
structure Frm where
 w0:World0
 Im0:Nat->Prop
 pid:List Nat
 ρ0:Loc
 nt:Nat
structure Mem(X:Frm)(ρ:Loc)(Im:Nat->Prop)(o:Xd)(w:World):Prop where
 objs:∀id ob,o id=some ob->ObjCon ρ Im w.heap id ob
 own:∀id ob b,o id=some ob->ob.live=true->(ρ id).1=some b->¬Im b/\b<w.heap.size/\(X.w0.heap.size<=b\/id∈X.pid)
 inj:∀id id' ob ob' b,o id=some ob->ob.live=true->o id'=some ob'->ob'.live=true->(ρ id).1=some b->(ρ id').1=some b->id=id'
 ocl:∀id ob,o id=some ob->∀i,NamesO i ob->o i≠none
 imlt:∀b,Im b->b<w.heap.size
 im0:∀b,X.Im0 b->Im b
 imf:∀b,Im b->X.Im0 b\/X.w0.heap.size<=b\/∃id,id∈X.pid/\(X.ρ0 id).1=some b
 os:w.os=X.w0.os
 tape:w.tape=X.w0.tape
 output:w.output=X.w0.output
 size:X.w0.heap.size<=w.heap.size
 frame:∀b,b<X.w0.heap.size->(∀id,id∈X.pid->(X.ρ0 id).1≠some b)->w.heap[b]? =X.w0.heap[b]?
 pin:∀id,id∈X.pid->ρ id=X.ρ0 id/\o id≠none
 lrc:∀(l:Nat) (r:Loop),X.w0.heap[l]? =some (.loop r)->∃st pe,w.heap[l]? =some (.loop { r with state:=st,pending:=pe })
 rnd:∀l,X.w0.ro=some l->∃r,X.w0.heap[l]? =some (.loop r)
structure DefOk(X:Frm)(Im:Nat->Prop)(H:eZ)(ds:List Deferred):Prop where
 mark:∀d∈ds,∃D,d={ target:=.collected D,args:=#[] }/\H[D]? =some (.deferred (some []))/\¬Im D/\X.w0.heap.size<=D
 nd:ds.Nodup
theorem DefOk.nil(X:Frm)(Im:Nat->Prop)(H:eZ):DefOk X Im H []:=⟨λd h=>by simp at h,List.nodup_nil⟩
theorem DefOk.mono{X:Frm}{Im I:Nat->Prop}{H b:eZ}{c:List Deferred}(h:DefOk X Im H c)(i:∀D:Nat,H[D]? =some (Obj.deferred (some []))->b[D]? =H[D]?)
  (j:∀D:Nat,H[D]? =some (Obj.deferred (some []))->¬Im D->¬I D):DefOk X I b c :=
 ⟨λd k=>let⟨D,e,a,f,g⟩:=h.mark d k;⟨D,e,(i D a).trans a,j D a f,g⟩,h.nd⟩
structure RelAt(X:Frm)(ρ:Loc)(Im:Nat->Prop)(s:Nat->Option AV)(o:Xd)(a:Act)(w:World):Prop extends Mem X ρ Im o w where
 slots:∀k v,s k=some v->∃x,a.tmps[k]? =some x/\Con ρ Im w.heap v x
 scl:∀k v,s k=some v->∀i,Names i v->o i≠none
 defers:DefOk X Im w.heap a.defers
 nt:a.tmps.size=X.nt
def Rel(X:Frm)(s:Nat->Option AV)(o:Xd)(a:Act)(w:World):Prop:=∃ρ Im,RelAt X ρ Im s o a w
structure Eff where
 rs:List Nat:=[]
 ro:List Nat:=[]
 ws:Option (Nat×AV):=none
 wo:Xb:=[]
def Eff.onS(E:Eff)(s:Nat->Option AV):Nat->Option AV :=
 match E.ws with
 |some (d,v)=>λk=>if k=d then some v else s k
 |none=>s
def gw:Xb->(Xd)->Nat->Option LObj
 |[],o,i=>o i
 |(j,x)::r,o,i=>if i=j then x else gw r o i
def Eff.onO(E:Eff)(o:Xd):Xd:=gw E.wo o
def rf(r:Option Nat):Fence:={ Fence.wide with round:=r }
def Pv(P:Program)(X:Frm)(o:Oper)(a:Act)(w:World)(n:Act->World->Prop):Prop:=o.wpIn (rf X.w0.ro) 0 P a w n (λ_ _ _=>False)
def O2(P:Program)(X:Frm)(b:Array Oper)(O:Oper)(s:Nat->Option AV)(o:Xd)(s':Nat->Option AV)(o':Xd):Prop :=
 ∀a w,Rel X s o a w->if Region.wanted O (yielded b a.tmps)then Pv P X O a w (λA W=>Rel X s' o' A W)else Rel X s' o' (a.put O.dst undef) w
def bD(P:Program)(X:Frm)(O:Array Oper)(a:Oper)(s:Nat->Option AV)(o:Xd)(E:Eff):Prop :=
 ∀s' o',(∀k∈E.rs,s' k=s k)->(∀i∈E.ro,o' i=o i)->O2 P X O a s' o' (E.onS s') (E.onO o')
def uO(P:Program)(X:Frm)(O:Array Oper):List (Oper×Eff)->(Nat->Option AV)->(Xd)->Prop
 |[],_,_=>True
 |(op,E)::r,s,o=>bD P X O op s o E/\uO P X O r (E.onS s) (E.onO o)
def y4(l:List (Oper×Eff))(s:Nat->Option AV):Nat->Option AV:=l.foldl (λs p=>p.2.onS s) s
def D2(l:List (Oper×Eff))(o:Xd):Xd:=l.foldl (λo p=>p.2.onO o) o
def Eff.wk(E:Eff):List Nat:=match E.ws with |some (d,_)=>[d]|none=>[]
def Eff.ok(E:Eff):List Nat:=E.wo.map (·.1)
def tl(a b:List Nat):Bool:=a.all λx=>!b.contains x
def A5(E F:Eff):Bool:=tl E.wk F.rs&&tl E.wk F.wk&&tl F.wk E.rs&&tl E.ok F.ro&&tl E.ok F.ok&&tl F.ok E.ro
theorem ij{a b:List Nat}(h:tl a b=true):∀x,x∈a->x∉b:=by
 intro x H;simp only[tl,List.all_eq_true]at h;simpa using h x H
theorem Eff.onS_other{E:Eff}{s:Nat->Option AV}{k:Nat}(h:k∉E.wk):E.onS s k=s k:=by
 unfold Eff.onS;unfold Eff.wk at h;cases he:E.ws with
 |none=>rfl
 |some p=>
  simp only[he,List.mem_singleton]at h;simp[h]
theorem Ca{l:Xb}{o:Xd}{i:Nat}(h:i∉l.map (·.1)):gw l o i=o i:=by
 induction l with
 |nil=>rfl
 |cons p r ih=>
  obtain⟨j,x⟩:=p;simp only[List.map_cons,List.mem_cons,not_or]at h;simp only[gw,if_neg h.1];exact ih h.2
theorem Cb{l:Xb}{i:Nat}(h:i∈l.map (·.1))(o o':Xd):gw l o i=gw l o' i:=by
 induction l with
 |nil=>simp at h
 |cons p r ih=>
  obtain⟨j,x⟩:=p;simp only[gw];split
  .rfl
  .rename_i H;simp only[List.map_cons,List.mem_cons,H,false_or]at h;exact ih h
theorem Eff.onO_other{E:Eff}{o:Xd}{i:Nat}(h:i∉E.ok):E.onO o i=o i:=Ca h
theorem yJ{E F:Eff}(h:tl E.wk F.wk=true)(s:Nat->Option AV):F.onS (E.onS s)=E.onS (F.onS s):=by
 funext k;unfold Eff.onS;unfold Eff.wk at h;cases hE:E.ws with
 |none=>rfl
 |some p=>
  obtain⟨d,v⟩:=p;cases hF:F.ws with
  |none=>rfl
  |some q=>
   obtain⟨e,u⟩:=q;simp only[hE,hF]at h;have H:d≠e:=by simpa using ij h d ν
   by_cases a:k=e
   .subst a;simp[Ne.symm H]
   .simp[a]
theorem yK{E F:Eff}(h:tl E.ok F.ok=true)(o:Xd):F.onO (E.onO o)=E.onO (F.onO o):=by
 funext i;by_cases a:i∈E.ok
 .have H:i∉F.ok:=ij h i a;rw[Eff.onO_other H];exact Cb a _ _
 .rw[Eff.onO_other a];by_cases H:i∈F.ok
  .exact Cb H _ _
  .rw[Eff.onO_other H,Eff.onO_other H,Eff.onO_other a]
section
variable {P:Program} {X:Frm} {ops:Array Oper}
theorem bD.congr{O:Oper}{s s':Nat->Option AV}{o o':Xd}{E:Eff}(h:bD P X ops O s o E)(e:∀k∈E.rs,s' k=s k)(d:∀i∈E.ro,o' i=o i):bD P X ops O s' o' E :=
 λS f b c=>h S f (λk a=>(b k a).trans (e k a)) (λi H=>(c i H).trans (d i H))
theorem A6{E F:Eff}(h:A5 E F=true):tl E.wk F.rs=true/\tl E.wk F.wk=true/\tl F.wk E.rs=true/\tl E.ok F.ro=true/\tl E.ok F.ok=true/\tl F.ok E.ro=true:=by
 simp only[A5,Bool.and_eq_true]at h;obtain⟨⟨⟨⟨⟨H,a⟩,b⟩,c⟩,d⟩,e⟩:=h;exact⟨H,a,b,c,d,e⟩
theorem oF:∀(L:List (Oper×Eff)) (O:Oper) (F:Eff) (l:List (Oper×Eff)) (s:Nat->Option AV) (o:Xd),
  (∀p∈L,A5 p.2 F=true)->uO P X ops (L++(O,F)::l) s o->
  bD P X ops O s o F/\uO P X ops (L++l) (F.onS s) (F.onO o)/\y4 (L++(O,F)::l) s=y4 (L++l) (F.onS s)/\D2 (L++(O,F)::l) o=D2 (L++l) (F.onO o)
 |[],_,_,_,_,_,_,h=>⟨h.1,h.2,rfl,rfl⟩
 |(op1,E)::r,O,F,l,s,o,hi,h=>by
  obtain⟨q,t⟩:=h;have u:=A6 (hi (op1,E) ν);obtain⟨c,e,d,f,b,g⟩:=u;obtain⟨G,j,m,n⟩:=oF r O F l (E.onS s) (E.onO o) (λp v=>hi p (by simp[v])) t;refine⟨G.congr (λk H=>?_) (λi H=>?_),⟨q.congr (λk H=>?_) (λi H=>?_),?_⟩,?_,?_⟩
  .exact(Eff.onS_other (λa=>ij c k a H)).symm
  .exact(Eff.onO_other (λa=>ij f i a H)).symm
  .exact Eff.onS_other (λa=>ij d k a H)
  .exact Eff.onO_other (λa=>ij g i a H)
  .rw[<-yJ e,<-yK b];exact j
  .simp only[y4,List.cons_append,List.foldl_cons]at *;rw[m,yJ e]
  .simp only[D2,List.cons_append,List.foldl_cons]at *;rw[n,yK b]
theorem gX{Q:Exit->Act->World->Prop}:∀(l:List (Oper×Eff)) (k:Nat) (s:Nat->Option AV) (o:Xd) (a:Act) (w:World),
  (∀j,(l[j]?).map (·.1)=ops[k+j]?)->uO P X ops l s o->Rel X s o a w->(∀A W,Rel X (y4 l s) (D2 l o) A W->Q .normal A W)->
  wpOpsIn (rf X.w0.ro) 0 P ops Q (List.range' k l.length) a w
 |[],_,_,_,a,w,_,_,hr,hQ=>hQ a w hr
 |(op,E)::r,k,s,o,a,w,hl,hc,hr,hQ=>by
  have p:ops[k]? =some op:=by simpa using(hl 0).symm
  have H:∀A W,Rel X (E.onS s) (E.onO o) A W->wpOpsIn (rf X.w0.ro) 0 P ops Q (List.range' (k+1) r.length) A W:=λA W f=>
   gX r (k+1) _ _ A W (λj=>by have:=hl (j+1);simpa[Nat.add_assoc,Nat.add_comm 1 j]using this) hc.2 f (λm t q=>hQ m t (by simpa[y4,D2]using q))
  have b:=hc.1 s o (λ_ _=>rfl) (λ_ _=>rfl) a w hr;rw[List.length_cons,List.range'_succ];simp only[wpOpsIn,p];split
  .rename_i g;rw[if_pos g]at b;exact Oper.wpIn_exits (Oper.wpIn_mono (K':=λa w=>wpOpsIn (rf X.w0.ro) 0 P ops Q (List.range' (k+1) r.length) a w) H b)
  .rename_i g;rw[if_neg g]at b;exact⟨λ_ _=>trivial,H _ _ b⟩
where
 Oper.wpIn_exits {F:Fence} {n:Nat} {o:Oper} {a:Act} {w:World} {K:Act->World->Prop} {Q:Exit->Act->World->Prop} (h:o.wpIn F n P a w K (λ_ _ _=>False)):o.wpIn F n P a w K Q:=by
  unfold Oper.wpIn at *;refine⟨h.1,?_⟩;have h:=h.2;generalize (o.semAt F.round a.eval).run P w=r at *;cases r with
  |ok n W=>
   cases n<;>simp only[Oper.uponIn]at h⊢ <;>
    first|exact h|exact⟨h.1,CallsIn.mono h.2 (λe i c=>by cases e<;>first|exact c|exact c.elim|(obtain⟨_,_,d⟩:=c;exact d.elim))⟩|exact⟨h.1,RoundIn.mono h.2 (λe i c=>by cases e<;>first|exact c|exact c.elim|(obtain⟨_,_,d⟩:=c;exact d.elim))⟩
  |halt x W=>cases x<;>simp only[Oper.uponIn]at h⊢
def A7(ops:Array Oper):Nat->Nat->Nat->Bool
 |0,_,_=>false
 |n+1,j,i=>match ops[j]? with
  |some o=>o.after.toList.any λe=>Region.binds .any e&&(e.on==i||(decide (i<e.on)&&A7 ops n e.on i))
  |none=>false
def KR(ops:Array Oper):Bool:=(List.range ops.size).all λj=>match ops[j]? with
 |some o=>o.after.toList.all λe=>!Region.binds .any e||decide (e.on<j)
 |none=>true
theorem Cc(h:KR ops=true){j:Nat}{o:Oper}(H:ops[j]? =some o):∀e∈o.after,Region.binds .any e=true->e.on<j:=by
 intro e a hb;simp only[KR,List.all_eq_true]at h;have b:j<ops.size:=(Array.getElem?_eq_some_iff.1 H).1;have:=h j (List.mem_range.2 b);simp only[H,List.all_eq_true]at this;have:=this e (by simpa using a);simp only[hb,Bool.not_true,Bool.false_or,decide_eq_true_eq]at this;exact this
def Pd(ops:Array Oper)(l:Array Bool):Prop:=∀j o,ops[j]? =some o->l.getD j false=true->∀e∈o.after,Region.binds .any e=true->l.getD e.on false=true
theorem uP{l:Array Bool}(k:Pd ops l):∀(n j i:Nat),A7 ops n j i=true->
  (∀o,ops[j]? =some o->∀e∈o.after,Region.binds .any e=true->l.getD e.on false=true)->l.getD i false=true:=by
 intro n;induction n with
 |zero=>intro j i h;simp[A7]at h
 |succ n ih=>
  intro j i h a;simp only[A7]at h;cases ho:ops[j]? with
  |none=>simp[ho]at h
  |some o=>
   simp only[ho,List.any_eq_true,Bool.and_eq_true,Bool.or_eq_true,beq_iff_eq,decide_eq_true_eq]at h;obtain⟨e,c,hb,H⟩:=h;replace c:e∈o.after:=by simpa using c
   have g:=a o ho e c hb;rcases H with H|⟨_,H⟩
   .rw[<-H];exact g
   .exact ih e.on i H (λO f E d b=>k e.on O f g E d b)
def fA(ops:Array Oper):List (Nat×Eff)->Bool
 |[]=>true
 |(i,E)::r=>r.all (λq=>A5 E q.2||A7 ops ops.size q.1 i)&&fA ops r
theorem nA:∀(L:List (Nat×Eff)) (q:Nat×Eff) (l:List (Nat×Eff)),fA ops (L++q::l)=true->∀p∈L,A5 p.2 q.2=true\/A7 ops ops.size q.1 p.1=true
 |[],_,_,_,p,H=>by simp at H
 |(i,E)::r,q,l,h,p,H=>by
  simp only[List.cons_append,fA,Bool.and_eq_true,List.all_eq_true]at h;rcases List.mem_cons.1 H with rfl|H
  .have:=h.1 q ν;simpa[Bool.or_eq_true]using this
  .exact nA r q l h.2 p H
theorem nB:∀(L:List (Nat×Eff)) (q:Nat×Eff) (l:List (Nat×Eff)),fA ops (L++q::l)=true->fA ops (L++l)=true
 |[],_,_,h=>by simp only[List.nil_append,fA,Bool.and_eq_true]at h⊢;exact h.2
 |(i,E)::r,q,l,h=>by
  simp only[List.cons_append,fA,Bool.and_eq_true,List.all_eq_true]at h⊢;refine⟨λx H=>h.1 x ?_,nB r q l h.2⟩;rcases List.mem_append.1 H with H|H<;>simp[H]
structure Left(ops:Array Oper)(listed:Array Bool)(R:List (Nat×Oper×Eff)):Prop where
 is:∀p∈R,ops[p.1]? =some p.2.1
 un:∀k o,ops[k]? =some o->(listed.getD k false=false↔k∈R.map (·.1))
 nd:(R.map (·.1)).Nodup
 asc:(R.map (·.1)).Pairwise (·< ·)
theorem qT{Q:Exit->Act->World->Prop}(L:KR ops=true):∀(f:Nat) (R:List (Nat×Oper×Eff)) (l:Array Bool) (s:Nat->Option AV) (o:Xd) (a:Act) (w:World),
  R.length=f->l.size=ops.size->Left ops l R->Pd ops l->fA ops (R.map λp=>(p.1,p.2.2))=true->uO P X ops (R.map (·.2)) s o->Rel X s o a w->
  (∀K w',Rel X (y4 (R.map (·.2)) s) (D2 (R.map (·.2)) o) K w'->Q .normal K w')->wpAnyIn (rf X.w0.ro) 0 P .any ops Q f l a w:=by
 intro f;induction f with
 |zero=>
  intro R l s o a w g m H hd D hc hr hQ;have hR:R=[]:=List.eq_nil_of_length_eq_zero g;subst hR;refine⟨?_,hQ a w hr⟩;rw[List.eq_nil_iff_forall_not_mem];intro j hj;obtain⟨h0,oj,n,_⟩:=mem_ready.1 hj;have:=(H.un j oj n).1 (by
   have hlt:j<l.size:=by rw[m];exact(Array.getElem?_eq_some_iff.1 n).1
   simp[hlt]at h0⊢;exact h0)
  simp at this
 |succ f ih=>
  intro R l s o a w g m H hd D hc hr hQ;refine⟨λhnil=>?_,λi hi=>?_⟩
  ·--the first that is left is ready
   exfalso;match R,g with
   |p::R',_=>
    have d:=H.is p ν;have hpl:p.1<l.size:=by rw[m];exact(Array.getElem?_eq_some_iff.1 d).1
    have E:l.getD p.1 false=false:=(H.un p.1 p.2.1 d).2 ν;have:p.1∈Region.ready .any ops l:=by
     rw[mem_ready];refine⟨by simp[hpl]at E⊢;exact E,p.2.1,d,λe he hb=>?_⟩;have hlt:=Cc L d e he hb;have hex:∃oe,ops[e.on]? =some oe:=⟨ops[e.on]'(by rw[<-m];omega),by simp⟩;obtain⟨oe,hoe⟩:=hex;cases hl:l.getD e.on false with
     |true=>rfl
     |false=>
      have O:=(H.un e.on oe hoe).1 hl;have b:=H.asc;simp only[List.map_cons,List.pairwise_cons]at b;simp only[List.map_cons,List.mem_cons]at O;rcases O with O|O
      .omega
      .have:=b.1 e.on O;omega
    rw[hnil]at this;cases this
  .obtain⟨h0,W,v,B⟩:=mem_ready.1 hi;have C:i<l.size:=by rw[m];exact(Array.getElem?_eq_some_iff.1 v).1
   have hun:l.getD i false=false:=by simp[C]at h0⊢;exact h0
   have O:=(H.un i W v).1 hun;obtain⟨p,hpR,hpi⟩:=List.mem_map.1 O;obtain⟨u,A,hR⟩:=List.append_of_mem hpR;obtain⟨I,op,F⟩:=p;simp only at hpi;subst hpi;have d:ops[I]? =some op:=H.is _ hpR;have hoo:W=op:=Option.some.inj (v.symm.trans d);subst hoo;subst hR;have hind:∀q∈u.map (·.2),A5 q.2 F=true:=by
    intro q hq;obtain⟨r,V,rfl⟩:=List.mem_map.1 hq;have S:fA ops (u.map (λp=>(p.1,p.2.2))++(I,F)::A.map (λp=>(p.1,p.2.2)))=true:=by simpa using D
    rcases nA _ _ _ S (r.1,r.2.2) (List.mem_map.2 ⟨r,V,rfl⟩)with h|h
    .exact h
    .exfalso;have hl:=uP hd _ _ _ h (fun o2 ho2 e he hb=>by
      have:W=o2:=Option.some.inj (d.symm.trans ho2);subst this;exact B e he hb)
     have G:=(H.un r.1 r.2.1 (H.is r (by simp[V]))).2 (by simp only[List.map_append,List.mem_append,List.mem_map];exact .inl ⟨r,V,rfl⟩);rw[hl]at G;cases G
   have hc':uO P X ops (u.map (·.2)++(W,F)::A.map (·.2)) s o:=by simpa using hc
   obtain⟨g1,g2,g3,g4⟩:=oF _ _ _ _ _ _ hind hc';have t:∀K w',Rel X (F.onS s) (F.onO o) K w'->wpAnyIn (rf X.w0.ro) 0 P .any ops Q f (l.setIfInBounds I true) K w':=by
    intro K w' hr';refine ih (u++A) _ _ _ K w' (by simp at g⊢;omega) (by simpa using m) ⟨λp D=>H.is p ?_,λk ok hk=>?_,?_,?_⟩ ?_ ?_ ?_ hr' (λa2 w2 h2=>hQ a2 w2 ?_)
    .rcases List.mem_append.1 D with D|D<;>simp[D]
    .have c:=H.nd;simp only[List.map_append,List.map_cons,List.nodup_append,List.nodup_cons]at c;by_cases N:I=k
     .subst N;simp only[List.map_append,List.mem_append];constructor
      .intro hf;simp[C]at hf
      .rintro(hf|hf)
       .exact absurd rfl (c.2.2 I hf I ν)
       .exact absurd hf c.2.1.1
     .rw[getD_set_ne false N,H.un k ok hk];simp only[List.map_append,List.map_cons,List.mem_append,List.mem_cons];constructor
      .rintro(h|h|h)
       .exact .inl h
       .exact absurd h.symm N
       .exact .inr h
      .rintro(h|h)
       .exact .inl h
       .exact .inr (.inr h)
    .have c:=H.nd;simp only[List.map_append,List.map_cons,List.nodup_append,List.nodup_cons]at c⊢;exact⟨c.1,c.2.1.2,λx hx y hy=>c.2.2 x hx y (by simp[hy])⟩
    .have b:=H.asc;simp only[List.map_append,List.map_cons,List.pairwise_append,List.pairwise_cons]at b⊢;exact⟨b.1,b.2.1.2,λx hx y hy=>b.2.2 x hx y (by simp[hy])⟩
    .intro j oj n hlj e he hb;by_cases hij:I=j
     .subst hij;have:W=oj:=Option.some.inj (d.symm.trans n);subst this;exact getD_set_true (B e he hb)
     .rw[getD_set_ne false hij]at hlj;exact getD_set_true (hd j oj n hlj e he hb)
    .have S:fA ops (u.map (λp=>(p.1,p.2.2))++(I,F)::A.map (λp=>(p.1,p.2.2)))=true:=by simpa using D
     simpa using nB _ _ _ S
    .simpa using g2
    .have e1:y4 (List.map (·.2) (u++(I,W,F)::A)) s=y4 (List.map (·.2) (u++A)) (F.onS s):=by simpa using g3
     have e2:D2 (List.map (·.2) (u++(I,W,F)::A)) o=D2 (List.map (·.2) (u++A)) (F.onO o):=by simpa using g4
     rw[e1,e2];exact h2
   have z:=g1 s o (λ_ _=>rfl) (λ_ _=>rfl) a w hr;unfold wpOpIn;simp only[v];split
   .rename_i hw;rw[if_pos hw]at z;exact gX.Oper.wpIn_exits (Oper.wpIn_mono t z)
   .rename_i hw;rw[if_neg hw]at z;exact⟨λ_ _=>trivial,t _ _ z⟩
end
def ck(b:Bool)(p:Prop):Prop:=match b with
 |true=>p
 |false=>False
theorem be{b:Bool}{p:Prop}(h:ck b p):b=true/\p:=by
 cases b with
 |true=>exact⟨rfl,h⟩
 |false=>exact h.elim
structure Side(c k:Prop):Prop where
 left:c
 right:k
structure St where
 env:List (Nat×AV)
 objs:Xb
def mz:List (Nat×AV)->Nat->Option AV
 |[],_=>none
 |(k,v)::r,n=>bif Nat.beq n k then some v else mz r n
def eU:Xb->Nat->Option LObj
 |[],_=>none
 |(k,v)::r,n=>bif Nat.beq n k then v else eU r n
def St.s(A:St):Nat->Option AV:=mz A.env
def St.o(A:St):Xd:=eU A.objs
def St.app(A:St)(E:Eff):St:=⟨match E.ws with |some p=>p::A.env|none=>A.env,E.wo++A.objs⟩
theorem aJ{α:Type}(n k:Nat)(x y:α):(bif Nat.beq n k then x else y)=if n=k then x else y:=by
 by_cases h:n=k
 .subst h;simp[Nat.beq_refl]
 .rw[if_neg h];have:Nat.beq n k=false:=by
   cases hb:Nat.beq n k with
   |true=>exact absurd (Nat.eq_of_beq_eq_true hb) h
   |false=>rfl
  rw[this];rfl
theorem St.app_s(A:St)(E:Eff):(A.app E).s=E.onS A.s:=by
 funext k;unfold St.s St.app Eff.onS;cases h:E.ws with
 |none=>rfl
 |some p=>
  obtain⟨d,v⟩:=p;simp only[mz,aJ]
theorem St.app_o(A:St)(E:Eff):(A.app E).o=E.onO A.o:=by
 funext i;unfold St.o St.app Eff.onO;simp only;generalize E.wo=l;induction l with
 |nil=>rfl
 |cons p r ih=>
  obtain⟨j,x⟩:=p;simp only[List.cons_append,eU,gw,aJ,ih]
def KS:Value->Option AV
 |.int k n=>some (.int k n)
 |.bool b=>some (.bool b)
 |.string s=>some (.str s)
 |.slice none 0 0=>some .nils
 |.nilIface=>some .niface
 |.nilFunc=>some .nfunc
 |.pointer none=>some .nptr
 |.map none=>some .nmap
 |_=>none
theorem Fz{v:Value}{x:AV}(h:KS v=some x)(Im:Nat->Prop)(H:eZ):ConI Im H x v:=by
 unfold KS at h;split at h<;>simp only[Option.some.injEq,reduceCtorEq]at h<;>subst h<;>constructor
theorem A8{v:Value}{x:AV}(h:KS v=some x)(i:Nat):¬Names i x:=by
 unfold KS at h;split at h<;>simp only[Option.some.injEq,reduceCtorEq]at h<;>subst h<;>intro H<;>cases H
def cm(s:Nat->Option AV):Operand->Option AV
 |.tmp t=>s t
 |.const v=>KS v
 |.func f=>some (.fn f [])
 |.global _=>none
def di:Operand->List Nat
 |.tmp t=>[t]
 |_=>[]
theorem ay{s s':Nat->Option AV}{x:Operand}(h:∀k∈di x,s' k=s k):cm s' x=cm s x:=by
 cases x<;>simp_all[cm,di]
section
variable {X:Frm} {ρ:Loc} {Im:Nat->Prop} {s:Nat->Option AV} {o:Xd} {a:Act} {w:World}
theorem RelAt.opd(h:RelAt X ρ Im s o a w){x:Operand}{v:AV}(H:cm s x=some v):Con ρ Im w.heap v (a.eval x):=by
 cases x with
 |tmp t=>
  obtain⟨y,d,b⟩:=h.slots t v H;have:a.eval (.tmp t)=y:=by simp[Act.eval,d]
  rw[this];exact b
 |const u=>exact .imm _ _ (Fz H Im w.heap)
 |func f=>
  simp only[cm,Option.some.injEq]at H;subst H;exact .imm _ _ (.fn f [] #[] rfl (by intro i c x b;simp at b))
 |global g=>simp[cm]at H
theorem RelAt.opdN(h:RelAt X ρ Im s o a w){x:Operand}{v:AV}(H:cm s x=some v){i:Nat}(b:Names i v):o i≠none:=by
 cases x with
 |tmp t=>exact h.scl t v H i b
 |const u=>exact absurd b (A8 H i)
 |func f=>
  simp only[cm,Option.some.injEq]at H;subst H;cases b with
  |fn _ _ c hm h=>simp at hm
 |global g=>simp[cm]at H
theorem Act.size_put(a:Act)(d:Option Tmp)(v:Value):(a.put d v).tmps.size=a.tmps.size:=by
 cases d<;>simp[Act.put]
theorem Act.defers_put(a:Act)(d:Option Tmp)(v:Value):(a.put d v).defers=a.defers:=by
 cases d<;>rfl
theorem RelAt.put(h:RelAt X ρ Im s o a w){d:Nat}(g:d<X.nt){v:AV}{y:Value}(f:Con ρ Im w.heap v y)(j:∀i,Names i v->o i≠none) :
  RelAt X ρ Im (λk=>if k=d then some v else s k) o (a.put (some d) y) w :=
 {h.toMem with
  slots:=by
   intro k u H;split at H
   .rename_i c;subst c;simp only[Option.some.injEq]at H;subst H;refine⟨y,?_,f⟩;simp[Act.put,h.nt,g]
   .rename_i c;obtain⟨x,l,b⟩:=h.slots k u H;exact⟨x,by simp[Act.put,Array.getElem?_setIfInBounds_ne (Ne.symm c),l],b⟩
  scl := by
   intro k u H i e;split at H
   .simp only[Option.some.injEq]at H;subst H;exact j i e
   .exact h.scl k u H i e
  defers:=by rw[Act.defers_put];exact h.defers
  nt:=by rw[Act.size_put];exact h.nt }
theorem RelAt.put0(h:RelAt X ρ Im s o a w)(y:Value):RelAt X ρ Im s o (a.put none y) w:=h
end
section
variable {P:Program} {X:Frm} {ops:Array Oper}
def gS(ops:Array Oper)(o:Oper):List Nat:=match o.guard with
 |none=>[]
 |some (j,_)=>match ops[j]? with
  |some p=>p.dst.toList
  |none=>[]
def lk(ops:Array Oper)(o:Oper)(s:Nat->Option AV):Prop:=match o.guard with
 |none=>True
 |some (j,want)=>match ops[j]? with
  |some p=>match p.dst with
   |some t=>s t=some (.bool want)
   |none=>False
  |none=>False
theorem Cd{o:Oper}{s s':Nat->Option AV}(h:∀k∈gS ops o,s' k=s k)(H:lk ops o s):lk ops o s':=by
 unfold lk gS at *;cases hgu:o.guard with
 |none=>trivial
 |some p=>
  obtain⟨j,w⟩:=p;simp only[hgu]at h H⊢;cases hj:ops[j]? with
  |none=>simp[hj]at H
  |some q=>
   simp only[hj]at h H⊢;cases hd:q.dst with
   |none=>simp[hd]at H
   |some t=>
    simp only[hd]at h H⊢;rw[h t ν];exact H
theorem RelAt.wanted{ρ:Loc}{Im:Nat->Prop}{s:Nat->Option AV}{o:Xd}{a:Act}{w:World}(h:RelAt X ρ Im s o a w){O:Oper}(H:lk ops O s) :
  Region.wanted O (yielded ops a.tmps)=true:=by
 unfold lk at H;unfold Region.wanted;cases hgu:O.guard with
 |none=>rfl
 |some p=>
  obtain⟨j,W⟩:=p;simp only[hgu]at H⊢;cases hj:ops[j]? with
  |none=>simp[hj]at H
  |some q=>
   simp only[hj]at H;cases hd:q.dst with
   |none=>simp[hd]at H
   |some t=>
    simp only[hd]at H;obtain⟨x,d,c⟩:=h.slots t _ H;have b:x=.bool W:=by
     cases c with
     |imm _ _ hi=>cases hi;rfl
    simp[yielded,hj,hd,d,b]
def dj(ops:Array Oper)(o:Oper)(R r:List Nat)(v:AV)(w:Xb:=[]):Eff:=⟨gS ops o++R,r,match o.dst with |some d=>some (d,v)|none=>none,w⟩
def Ic(o:Oper):Bool:=match o.op with
 |.defer _=>false
 |_=>true
def co(nt:Nat)(o:Oper):Prop:=Ic o=true/\match o.dst with |some d=>Nat.blt d nt=true|none=>True
theorem oG{nt:Nat}{o:Oper}(h:co nt o):∀c,o.op≠.defer c:=λc e=>by
 have:=h.1;unfold Ic at this;rw[e]at this;cases this
theorem ry{r:Option Nat}{n:Nat}{f:FuncId}{args:Array Value}{w:World}{R:Ending->World->Prop}(h:Calls P f args w R):CallsIn (rf r) n P f args w R :=
 (callsIn_wide (n:=n)).2 h
theorem Ce{b:Option Nat}{n:Nat}{a:String}{args:Array Value}{w:World}{R:Value->World->Prop}(h:Rows P a args w R):RowsIn (rf b) n P a args w R :=
 λc cs _=>let⟨v,W,r,s⟩:=h c cs;⟨v,W,r,stepsIn_wide.2 s⟩
theorem Cf{o:Oper}{a:Act}{w:World}{N:Act->World->Prop}(b:∀c,o.op≠.defer c)(h:o.wp P a w N (λ_ _ _=>False)):Pv P X o a w N:=by
 refine⟨λ_ _=>trivial,?_⟩;rw[Oper.semAt_eq _ _ _ b];unfold Oper.wp at h;generalize (execOp a.eval o).run P w=r at *;cases r with
 |ok n w'=>
  cases n<;>simp only[Oper.upon]at h<;>simp only[Oper.uponIn]<;>
   first|exact h|exact h.elim|exact⟨λe=>(by cases e),ry (h.mono λe W H=>by cases e<;>first|exact H|exact H.elim|(obtain⟨_,_,d⟩:=H;exact d.elim))⟩|exact⟨λe=>(by cases e),Ce h⟩
 |halt x w'=>cases x<;>simp only[Oper.upon]at h<;>simp only[Oper.uponIn]<;>first|exact h|exact h.elim
theorem yL{nt:Nat}{o:Oper}(h:co nt o){d:Nat}(H:o.dst=some d):d<nt:=by
 have h:=h.2;rw[H]at h;simpa[Nat.blt_eq]using h
theorem yM(o:Oper)(R r:List Nat)(v:AV)(w:Xb)(s:Nat->Option AV) :
  (dj ops o R r v w).onS s=match o.dst with |some d=>λk=>if k=d then some v else s k|none=>s:=by
 unfold dj Eff.onS;cases o.dst<;>rfl
theorem Cg{O:Oper}{s:Nat->Option AV}{o:Xd}(n:lk ops O s)(m:co X.nt O){R r:List Nat}{v:AV}{g:Xb}
  (h:∀s' o',(∀k∈R,s' k=s k)->(∀i∈r,o' i=o i)->∀ρ Im a w,RelAt X ρ Im s' o' a w->
   Pv P X O a w (λA W=>∃y b I,A=a.put O.dst y/\RelAt X b I s' (gw g o') a W/\Con b I W.heap v y/\∀i,Names i v->gw g o' i≠none)) :
  bD P X ops O s o (dj ops O R r v g):=by
 intro s' o' j t a w c;obtain⟨ρ,Im,c⟩:=c;have e:lk ops O s':=Cd (λk f=>j k (by simp[dj,f])) n;rw[if_pos (c.wanted e)];refine Oper.wpIn_mono ?_ (h s' o' (λk f=>j k (by simp[dj,f])) (λi p=>t i (by simpa[dj]using p)) ρ Im a w c);rintro A W ⟨y,b,I,rfl,H,l,q⟩;refine⟨b,I,?_⟩;rw[yM];cases hdst:O.dst with
 |none=>exact H.put0 y
 |some d=>exact H.put (yL m hdst) l q
theorem cT{O:Oper}{s:Nat->Option AV}{o:Xd}(d:lk ops O s)(H:co X.nt O){R r:List Nat}{v:AV}{W:Xb}
  (h:∀s' o',(∀k∈R,s' k=s k)->(∀i∈r,o' i=o i)->∀ρ Im a w,RelAt X ρ Im s' o' a w->
   O.wp P a w (λA c=>∃y b I,A=a.put O.dst y/\RelAt X b I s' (gw W o') a c/\Con b I c.heap v y/\∀i,Names i v->gw W o' i≠none) (λ_ _ _=>False)) :
  bD P X ops O s o (dj ops O R r v W) :=
 Cg d H λs' o' g e ρ Im a w f=>Cf (oG H) (h s' o' g e ρ Im a w f)
theorem cU{O:Oper}{s:Nat->Option AV}{o:Xd}(d:lk ops O s)(c:co X.nt O){R r:List Nat}{v:AV}
  (h:∀s' o',(∀k∈R,s' k=s k)->(∀i∈r,o' i=o i)->∀ρ Im a w,RelAt X ρ Im s' o' a w->
   (∃y,(execOp a.eval O).run P w=.ok (.value y) w/\Con ρ Im w.heap v y)/\∀i,Names i v->o' i≠none) :
  bD P X ops O s o (dj ops O R r v):=by
 refine cT d c λs' o' g f ρ Im a w H=>?_;obtain⟨⟨y,j,b⟩,e⟩:=h s' o' g f ρ Im a w H;unfold Oper.wp;rw[j];exact⟨y,ρ,Im,rfl,H,b,e⟩
theorem rz{O:Oper}{s:Nat->Option AV}{o:Xd}{j t:Nat}{W b:Bool}{p:Oper}(m:O.guard=some (j,W))(n:ops[j]? =some p)(r:p.dst=some t)
  (k:s t=some (.bool b)/\b≠W\/s t=some (.tup [])) (y:co X.nt O):bD P X ops O s o (dj ops O [] [] (.tup [])):=by
 intro s' o' q A a w e;obtain⟨ρ,Im,e⟩:=e;have l:s' t=s t:=q t (by simp[dj,gS,m,n,r]);have z:Region.wanted O (yielded ops a.tmps)=false:=by
  rcases k with⟨k,hb⟩|k
  .obtain⟨x,u,f⟩:=e.slots t _ (l.trans k);have H:x=.bool b:=by
    cases f with
    |imm _ _ g=>cases g;rfl
   simp[Region.wanted,m,yielded,n,r,u,H,hb]
  .obtain⟨x,u,f⟩:=e.slots t _ (l.trans k);have H:∃v,x=.tuple v:=by
    cases f with
    |imm _ _ g=>cases g;exact⟨_,rfl⟩
    |tup _ v _ _=>exact⟨_,rfl⟩
   obtain⟨v,rfl⟩:=H;simp[Region.wanted,m,yielded,n,r,u]
 rw[if_neg (by simp[z])];refine⟨ρ,Im,?_⟩;rw[yM];cases hdst:O.dst with
 |none=>exact e.put0 _
 |some d=>exact e.put (yL y hdst) (.imm _ _ (.tup [] #[] rfl (by intro i c x f;simp at f))) (λi g=>by cases g with |tup _ c hm h=>simp at hm)
theorem jC{O:Oper}{x:Operand}(H:O.op=.move x\/O.op=.assign x){s:Nat->Option AV}{o:Xd}(d:lk ops O s)(c:co X.nt O){v:AV}(g:cm s x=some v) :
  bD P X ops O s o (dj ops O (di x) [] v):=by
 refine cU d c λs' o' f _ ρ Im a w b=>?_;have h:cm s' x=some v:=(ay f).trans g;refine⟨⟨a.eval x,?_,b.opd h⟩,λi e=>b.opdN h e⟩;rcases H with H|H<;>simp[execOp,H]
theorem Con.bool_inv{ρ:Loc}{Im:Nat->Prop}{H:eZ}{b:Bool}{x:Value}(h:Con ρ Im H (.bool b) x):x=.bool b:=by
 cases h with
 |imm _ _ hi=>cases hi;rfl
theorem Con.int_inv{ρ:Loc}{Im:Nat->Prop}{H:eZ}{k:IntKind}{n:Int}{x:Value}(h:Con ρ Im H (.int k n) x):x=.int k n:=by
 cases h with
 |imm _ _ hi=>cases hi;rfl
theorem Con.str_inv{ρ:Loc}{Im:Nat->Prop}{H:eZ}{s:ByteArray}{x:Value}(h:Con ρ Im H (.str s) x):x=.string s:=by
 cases h with
 |imm _ _ hi=>cases hi;rfl
theorem r6{O:Oper}{c x y:Operand}(p:O.op=.pick c x y){s:Nat->Option AV}{o:Xd}(m:lk ops O s)(l:co X.nt O){b:Bool}(j:cm s c=some (.bool b)){v:AV}
  (q:cm s (if b then x else y)=some v):bD P X ops O s o (dj ops O (di c++di x++di y) [] v):=by
 refine cU m l λs' o' g _ ρ Im a w d=>?_;have H:cm s' c=some (.bool b):=(ay λk f=>g k (by simp[f])).trans j;have h:cm s' (if b then x else y)=some v:=(ay λk f=>g k (by cases b<;>simp_all)).trans q;have e:=(d.opd H).bool_inv;refine⟨⟨a.eval (if b then x else y),?_,d.opd h⟩,λi n=>d.opdN h n⟩;simp only[execOp,p,e,asBool];cases b<;>simp
end
inductive TK where
 |int (k:IntKind)
 |bool
 |str
 |slice (elem:Nat)
 |arr (n elem:Nat)
 |struct
 |map (key elem:Nat)
 |other
structure TI where
 tk:TK
 size:Nat
 bytes:Nat
 zero:List AV
 flds:List (Nat×Nat):=[]
def TK.of(d:TypeDesc):TK:=match d with
 |.int k=>.int k
 |.bool=>.bool
 |.string=>.str
 |.slice e=>.slice e
 |.array n e=>.arr n e
 |.struct _=>.struct
 |.map k e=>.map k e
 |_=>.other
def yN(P:Program)(d:TypeDesc):List (Nat×Nat):=match d with
 |.struct fs=>fs.toList.map λf=>(f.offset,P.cellsOf f.type)
 |_=>[]
abbrev kb:=List (Nat×TI)
def gq:kb->Nat->Option TI
 |[],_=>none
 |(k,v)::r,n=>bif Nat.beq n k then some v else gq r n
def TI.agg(t:TI):Bool:=match t.tk with
 |.struct|.arr _ _=>true
 |_=>false
def AV.conc:AV->Value
 |.int k n=>.int k n
 |.bool b=>.bool b
 |.str s=>.string s
 |.nils=>.slice none 0 0
 |.niface=>.nilIface
 |.nfunc=>.nilFunc
 |.nptr=>.pointer none
 |.nmap=>.map none
 |_=>undef
def AV.plain:AV->Bool
 |.int _ _|.bool _|.str _|.nils|.niface|.nfunc|.nptr|.nmap=>true
 |_=>false
theorem AV.plain_con{v:AV}(h:v.plain=true)(Im:Nat->Prop)(H:eZ):ConI Im H v v.conc:=by
 cases v<;>simp only[AV.plain,Bool.false_eq_true]at h<;>constructor
theorem AV.plain_names{v:AV}(h:v.plain=true)(i:Nat):¬Names i v:=by
 cases v<;>simp only[AV.plain,Bool.false_eq_true]at h<;>intro H<;>cases H
def uQ:Value->Bool
 |.agg _=>true
 |_=>false
structure TiOk(P:Program)(t:Nat)(ti:TI):Prop where
 und:∃d,P.underlying t=some d/\TK.of d=ti.tk/\yN P d=ti.flds
 info:∃i z,P.info? t=some i/\i.size=ti.size/\i.bytes=ti.bytes/\i.zero=some z/\z.cells.toList=ti.zero.map AV.conc/\uQ z=ti.agg
 plain:ti.zero.all AV.plain=true
 zlen:ti.zero.length=ti.size
def fK(P:Program)(T:kb):Prop:=∀t a,gq T t=some a->TiOk P t a
def HE(P:Program):kb->Prop
 |[]=>True
 |(t,ti)::r=>((P.underlying t).map (λd=>(TK.of d,yN P d))=some (ti.tk,ti.flds)/\(P.info? t).map (λi=>(i.size,i.bytes,i.zero.map λz=>(z.cells.toList,uQ z)))=some (ti.size,ti.bytes,some (ti.zero.map AV.conc,ti.agg))/\ti.zero.all AV.plain=true/\ti.zero.length=ti.size)/\HE P r
theorem uR{P:Program}{T:kb}(h:HE P T):fK P T:=by
 induction T with
 |nil=>intro t c h;simp[gq]at h
 |cons p r ih=>
  obtain⟨k,v⟩:=p;intro t c H;simp only[gq,aJ]at H;split at H
  .rename_i l;subst l;simp only[Option.some.injEq]at H;subst H;obtain⟨a,b,g,j⟩:=h.1;refine⟨?_,?_,g,j⟩
   .cases hu:P.underlying t with
    |none=>simp[hu]at a
    |some d=>
     simp only[hu,Option.map_some,Option.some.injEq,Prod.mk.injEq]at a;exact⟨d,rfl,a.1,a.2⟩
   cases hi:P.info? t with
   |none=>simp[hi]at b
   |some i=>
    simp only[hi,Option.map_some,Option.some.injEq,Prod.mk.injEq]at b;obtain⟨E,f,e⟩:=b;cases hz:i.zero with
    |none=>simp[hz]at e
    |some z=>
     simp only[hz,Option.map_some,Option.some.injEq,Prod.mk.injEq]at e;exact⟨i,z,rfl,E,f,hz,e.1,e.2⟩
  .exact ih h.2 t c H
theorem TiOk.sizeOf{P:Program}{t:Nat}{a:TI}(h:TiOk P t a)(w:World):(sizeOf t).run P w=.ok a.size w:=by
 obtain⟨i,z,H,b,_⟩:=h.info;simp[Go.sizeOf,typeInfo,H,b]
theorem TiOk.isAgg{P:Program}{t:Nat}{a:TI}(h:TiOk P t a)(w:World):(isAgg t).run P w=.ok a.agg w:=by
 obtain⟨d,H,b,_⟩:=h.und;simp only[Go.isAgg,Sem.run_bind,run_underlying H,Result.andThen_ok];unfold TI.agg;rw[<-b];cases d<;>rfl
theorem TiOk.slice{P:Program}{t:Nat}{a:TI}(h:TiOk P t a){e:Nat}(c:a.tk=.slice e):P.underlying t=some (.slice e):=by
 obtain⟨d,b,H,_⟩:=h.und;rw[c]at H;rw[b];cases d<;>simp[TK.of]at H⊢;exact H
theorem TiOk.bool{P:Program}{t:Nat}{a:TI}(h:TiOk P t a)(c:a.tk=.bool):P.underlying t=some .bool:=by
 obtain⟨d,b,H,_⟩:=h.und;rw[c]at H;rw[b];cases d<;>simp[TK.of]at H⊢
theorem TiOk.str{P:Program}{t:Nat}{a:TI}(h:TiOk P t a)(c:a.tk=.str):P.underlying t=some .string:=by
 obtain⟨d,b,H,_⟩:=h.und;rw[c]at H;rw[b];cases d<;>simp[TK.of]at H⊢
theorem TiOk.int{P:Program}{t:Nat}{a:TI}(h:TiOk P t a){k:IntKind}(c:a.tk=.int k):P.underlying t=some (.int k):=by
 obtain⟨d,b,H,_⟩:=h.und;rw[c]at H;rw[b];cases d<;>simp[TK.of]at H⊢;exact H
theorem TiOk.arr{P:Program}{t:Nat}{a:TI}(h:TiOk P t a){n e:Nat}(c:a.tk=.arr n e):P.underlying t=some (.array n e):=by
 obtain⟨d,b,H,_⟩:=h.und;rw[c]at H;rw[b];cases d<;>simp[TK.of]at H⊢;exact H
theorem TiOk.map{P:Program}{t:Nat}{a:TI}(h:TiOk P t a){k e:Nat}(c:a.tk=.map k e):P.underlying t=some (.map k e):=by
 obtain⟨d,b,H,_⟩:=h.und;rw[c]at H;rw[b];cases d<;>simp[TK.of]at H⊢;exact H
theorem TiOk.struct{P:Program}{t:Nat}{a:TI}(h:TiOk P t a)(e:a.tk=.struct):∃F,P.underlying t=some (.struct F)/\F.toList.map (λf=>(f.offset,P.cellsOf f.type))=a.flds:=by
 obtain⟨d,b,H,c⟩:=h.und;rw[e]at H;cases d<;>simp[TK.of]at H;exact⟨_,b,c⟩
def ah(n:Int):Prop:=-9223372036854775808<=n/\n<=9223372036854775807
theorem kV{n:Int}(h:ah n):IntKind.i64.wrap n=n:=IntWalk.i64_in n ⟨h.1,by have:=h.2;omega⟩
def Kw(d:TK)(o:BinOp)(x y:AV)(k:AV->Prop):Prop :=
 match o,x,y with
 |.add,.int .i64 a,.int .i64 b=>Side (ah (a+b)) (k (.int .i64 (a+b)))
 |.sub,.int .i64 a,.int .i64 b=>Side (ah (a-b)) (k (.int .i64 (a-b)))
 |.mul,.int .i64 a,.int .i64 b=>Side (ah (a*b)) (k (.int .i64 (a*b)))
 |.quo,.int .i64 a,.int .i64 b=>Side (b≠0/\ah (a.tdiv b)) (k (.int .i64 (a.tdiv b)))
 |.rem,.int .i64 a,.int .i64 b=>Side (b≠0) (k (.int .i64 (a.tmod b)))
 |.rem,.int .u8 a,.int .u8 b=>Side (b≠0) (k (.int .u8 (a.tmod b)))
 |.shr,.int .u8 a,.int .u64 b=>Side (0<=b) (k (.int .u8 (a.fdiv (2 ^ min b.toNat 8))))
 |.lss,.int .i64 a,.int .i64 b=>k (.bool (decide (a<b)))
 |.leq,.int .i64 a,.int .i64 b=>k (.bool (decide (a<=b)))
 |.gtr,.int .i64 a,.int .i64 b=>k (.bool (decide (b<a)))
 |.geq,.int .i64 a,.int .i64 b=>k (.bool (decide (b<=a)))
 |.eql,.int .i64 a,.int .i64 b=>k (.bool (decide (a=b)))
 |.neq,.int .i64 a,.int .i64 b=>k (.bool (!decide (a=b)))
 |.lss,.int .u8 a,.int .u8 b=>k (.bool (decide (a<b)))
 |.leq,.int .u8 a,.int .u8 b=>k (.bool (decide (a<=b)))
 |.gtr,.int .u8 a,.int .u8 b=>k (.bool (decide (b<a)))
 |.geq,.int .u8 a,.int .u8 b=>k (.bool (decide (b<=a)))
 |.eql,.int .u8 a,.int .u8 b=>k (.bool (decide (a=b)))
 |.neq,.int .u8 a,.int .u8 b=>k (.bool (!decide (a=b)))
 |.eql,.str a,.str b=>k (.bool (a.toList==b.toList))
 |.neq,.str a,.str b=>k (.bool (!(a.toList==b.toList)))
 |.eql,.bool a,.bool b=>match d with |.bool=>k (.bool (a==b))|_=>False
 |.neq,.bool a,.bool b=>match d with |.bool=>k (.bool (!(a==b)))|_=>False
 |.eql,.nils,.nils=>match d with |.slice _=>k (.bool true)|_=>False
 |.eql,.isl n _ _,.nils=>match d with |.slice _=>Side (n≠0) (k (.bool false))|_=>False
 |.eql,.osl _ n,.nils=>match d with |.slice _=>Side (n≠0) (k (.bool false))|_=>False
 |.eql,.osub _ _ n _,.nils=>match d with |.slice _=>Side (n≠0) (k (.bool false))|_=>False
 |_,_,_=>False
section
variable {P:Program} {ρ:Loc} {Im:Nat->Prop} {H:eZ}
theorem Id(a b:Int):(a==b)=decide (a=b):=by
 by_cases h:a=b<;>simp[h]
theorem Con.nils_inv{x:Value}(h:Con ρ Im H .nils x):x=.slice none 0 0:=by
 cases h with
 |imm _ _ hi=>cases hi;rfl
theorem Con.isl_inv{n sz:Nat}{get:Nat->List AV}{x:Value}(h:Con ρ Im H (.isl n sz get) x) :
  (n=0/\∃p,x=.slice p 0 0)\/∃b o cap arr T fr,x=.slice (some ⟨b,o,none⟩) n cap/\Im b/\H[b]? =some (.cells arr T fr)/\(∀i,i<n->(get i).length=sz)/\n<=cap/\n<=th/\o+n*sz<=arr.size/\
   ∀(i j:Nat) (c:AV) (x:Value),i<n->(get i)[j]? =some c->arr[o+i*sz+j]? =some x->ConI Im H c x:=by
 cases h with
 |imm _ _ hi=>
  cases hi with
  |isl0=>exact .inl ⟨rfl,_,rfl⟩
  |isl _ _ _ b o cap arr T fr him hb hsz hn hbd hfit h=>exact .inr ⟨b,o,cap,arr,T,fr,rfl,him,hb,hsz,hn,hbd,hfit,h⟩
theorem Con.icap_inv{n sz:Nat}{get:Nat->List AV}{x:Value}(h:Con ρ Im H (.icap n sz get) x) :
  ∃b o arr T fr,x=.slice (some ⟨b,o,none⟩) n n/\Im b/\H[b]? =some (.cells arr T fr)/\(∀i,i<n->(get i).length=sz)/\0<n/\n<=th/\o+n*sz<=arr.size/\
   ∀(i j:Nat) (c:AV) (x:Value),i<n->(get i)[j]? =some c->arr[o+i*sz+j]? =some x->ConI Im H c x:=by
 cases h with
 |imm _ _ hi=>
  cases hi with
  |icap _ _ _ b o arr T fr him hb hsz hn hbd hfit h=>exact⟨b,o,arr,T,fr,rfl,him,hb,hsz,hn,hbd,hfit,h⟩
theorem A9{t:Nat}{s:TI}(g:TiOk P t s){o:BinOp}{x y:AV}{k:AV->Prop}(h:Kw s.tk o x y k) :
  ∃v,k v/\(∀i,¬Names i v)/\∀(ρ:Loc) (Im:Nat->Prop) (w:World) (u d:Value) (a b:Operand),Con ρ Im w.heap x u->Con ρ Im w.heap y d->
   ∃z,(do eqGuard o t a b u d;binOp o t u d:Sem Value).run P w=.ok z w/\∀I A,ConI I A v z:=by
 have hb:∀(b:Bool) (i:Nat),¬Names i (.bool b):=λb i r=>by cases r
 have D:∀(k:IntKind) (b:Int) (i:Nat),¬Names i (.int k b):=λk b i r=>by cases r
 have q:∀(o:BinOp) (t:TypeId) (a b:Operand) (u d:Value),eqGuard o t a b u d=pure ()->∀(w:World),(do eqGuard o t a b u d;binOp o t u d:Sem Value).run P w=(binOp o t u d).run P w:=by
  intro o t a b u d E w;rw[E];simp
 unfold Kw at h;split at h<;>first
  |exact h.elim
  | (refine⟨_,h.2,D _ _,fun ρ Im w u d a b f c=>?_⟩
     cases f.int_inv;cases c.int_inv;refine⟨_,?_,λ_ _=>.int _ _⟩;rw[q _ _ _ _ _ _ (eqGuard_at_int ..)];first|(have:=kV h.1;simp[binOp,Op.intArith,this];done)|(have:=kV h.1.2;have l:=h.1.1;simp[binOp,Op.intDiv,this,l];done)|(have l:=h.1;simp[binOp,Op.intDiv,l];done)|(have l:=Int.not_lt.2 h.1;simp[binOp,Op.shift,l,IntKind.bits];done))
  | (refine⟨_,h,hb _,fun ρ Im w u d a b f c=>?_⟩
     cases f.int_inv;cases c.int_inv;refine⟨_,?_,λ_ _=>.bool _⟩;rw[q _ _ _ _ _ _ (eqGuard_at_int ..)];simp[binOp,Op.intCmp,Id,bne];done)
  | (refine⟨_,h,hb _,fun ρ Im w u d a b f c=>?_⟩
     cases f.str_inv;cases c.str_inv;refine⟨_,?_,λ_ _=>.bool _⟩;rw[q _ _ _ _ _ _ (eqGuard_at_string ..)];simp[binOp,Op.stringOp];done)
  |skip
 .split at h
  .rename_i j;refine⟨_,h,hb _,λρ Im w u d a b f c=>?_⟩;cases f.bool_inv;cases c.bool_inv;refine⟨_,?_,λ_ _=>.bool _⟩;rw[q _ _ _ _ _ _ (eqGuard_at_bool ..)];exact run_eql_bool w t _ _ (g.bool j)
  .exact h.elim
 .split at h
  .rename_i j;refine⟨_,h,hb _,λρ Im w u d a b f c=>?_⟩;cases f.bool_inv;cases c.bool_inv;refine⟨_,?_,λ_ _=>.bool _⟩;rw[q _ _ _ _ _ _ (eqGuard_at_bool ..)];exact run_neq_bool w t _ _ (g.bool j)
  .exact h.elim
 .split at h
  .rename_i e j;refine⟨_,h,hb _,λρ Im w u d a b f c=>?_⟩;cases f.nils_inv;cases c.nils_inv;refine⟨_,?_,λ_ _=>.bool _⟩;rw[q _ _ _ _ _ _ (eqGuard_at_slice ..)];exact Lib.run_eql_slice_nil w t e none 0 0 0 0 (g.slice j)
  .exact h.elim
 .split at h
  .rename_i e j;refine⟨_,h.2,hb _,λρ Im w u d a b f c=>?_⟩;cases c.nils_inv;rcases f.isl_inv with⟨r,_⟩|⟨B,O,cap,C,T,fr,rfl,_⟩
   .exact absurd r h.1
   .refine⟨_,?_,λ_ _=>.bool _⟩;rw[q _ _ _ _ _ _ (eqGuard_at_slice ..)];exact Lib.run_eql_slice_nil w t e (some ⟨B,O,none⟩) _ _ _ _ (g.slice j)
  .exact h.elim
 .split at h
  .rename_i e j;refine⟨_,h.2,hb _,λρ Im w u d a b f c=>?_⟩;cases c.nils_inv;cases f with
   |imm _ _ hi=>cases hi
   |osl id n hbd hne hnc=>
    obtain⟨B,m⟩:=Option.ne_none_iff_exists'.1 (hne h.1);refine⟨_,?_,λ_ _=>.bool _⟩;rw[q _ _ _ _ _ _ (eqGuard_at_slice ..),m];exact Lib.run_eql_slice_nil w t e (some ⟨B,0,none⟩) _ _ _ _ (g.slice j)
  .exact h.elim
 .split at h
  .rename_i e j;refine⟨_,h.2,hb _,λρ Im w u d a b f c=>?_⟩;cases c.nils_inv;cases f with
   |imm _ _ hi=>cases hi
   |osub id O n sz cap p hbd hp hnc=>
    obtain⟨B,m,rfl⟩:=hp h.1;refine⟨_,?_,λ_ _=>.bool _⟩;rw[q _ _ _ _ _ _ (eqGuard_at_slice ..)];exact Lib.run_eql_slice_nil w t e (some ⟨B,_,none⟩) _ _ _ _ (g.slice j)
  .exact h.elim
end
end Go.Nc