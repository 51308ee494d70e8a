/- Parts. -/
import Derived.Orders
import Derived.Laws.AppendOwn
import Derived.OrdersIn
import Derived.IntWalk
import Derived.Laws.Slices
import Derived.Laws.Small
import Derived.Lib.SliceRun
namespace Go.Nc
theorem ω{p:Prop}(h:p:=by omega):p:=h
theorem κ{p:Prop}(h:p:=by dsimp only;omega):p:=h
theorem φ{p:Prop}(h:p:=by decide):p:=h
theorem η{p:Prop}(h:p:=by simp):p:=h
theorem ν{p:Nat->Prop}(i:Nat)(h:i<0):p i:=absurd h (Nat.not_lt_zero i)
theorem ψ{α:Type}{l:List α}{i:Nat}{a:α}:l.getD i a=(l[i]?).getD a:=List.getD_eq_getElem?_getD
theorem γ{a:Int}(h:0<=a):∃n:Nat,a=n:=Int.eq_ofNat_of_zero_le h
theorem ζ(a b:Nat):a<b\/a>=b:=Nat.lt_or_ge a b
theorem ξ(n:Nat):n<=n:=Nat.le_refl n
theorem π(n:Nat):0<=n:=Nat.zero_le n
theorem χ(n:Nat):(n:Int).toNat=n:=rfl
theorem β{α:Type}{l:List α}{i:Nat}(h:i<l.length):l[i]? =some l[i]:=List.getElem?_eq_getElem h
inductive AV where
 |int (k:IntKind) (n:Int)
 |bool (b:Bool)
 |str (s:ByteArray)
 |junk
 |fn (f:FuncId) (caps:List AV)
 |isl (n sz:Nat) (get:Nat->List AV)
 |icap (n sz:Nat) (get:Nat->List AV)
 |eptr (n sz:Nat) (get:Nat->List AV) (i j:Nat)
 |ibox (cells:List AV) (off:Nat)
 |nils
 |emp
 |niface
 |nfunc
 |nptr
 |nmap
 |iface (t:TypeId) (v:AV)
 |agg (cs:List AV)
 |tup (vs:List AV)
 |lptr (id off:Nat)
 |osl (id n:Nat)
 |osub (id off n sz:Nat)
 |optr (id sz i j:Nat)
 |mref (id:Nat)
 |yld (id:Nat)
abbrev Heap:=Array Obj
def slMax:Nat:=9223372036854775807
def dZ:Nat:=140737488355328
theorem r8{n:Nat}(h:n<=dZ):n<=slMax:=by unfold dZ at h;unfold slMax;omega
inductive ConI(Im:Nat->Prop)(H:Heap):AV->Value->Prop
 |int (k n):ConI Im H (.int k n) (.int k n)
 |bool (b):ConI Im H (.bool b) (.bool b)
 |str (s):ConI Im H (.str s) (.string s)
 |junk (x):ConI Im H .junk x
 |nils:ConI Im H .nils (.slice none 0 0)
 |emp (p):ConI Im H .emp (.slice p 0 0)
 |niface:ConI Im H .niface .nilIface
 |nfunc:ConI Im H .nfunc .nilFunc
 |nptr:ConI Im H .nptr (.pointer none)
 |nmap:ConI Im H .nmap (.map none)
 |iface (t v x):ConI Im H v x->ConI Im H (.iface t v) (.iface t x)
 |fn (f caps) (xs:Array Value) (hl:xs.size=caps.length) (h:∀(i:Nat) (c:AV) (x:Value),caps[i]? =some c->xs[i]? =some x->ConI Im H c x):ConI Im H (.fn f caps) (.func (.func f) #[] xs)
 |agg (cs) (xs:Array Value) (hl:xs.size=cs.length) (h:∀(i:Nat) (c:AV) (x:Value),cs[i]? =some c->xs[i]? =some x->ConI Im H c x):ConI Im H (.agg cs) (.agg xs)
 |tup (cs) (xs:Array Value) (hl:xs.size=cs.length) (h:∀(i:Nat) (c:AV) (x:Value),cs[i]? =some c->xs[i]? =some x->ConI Im H c x):ConI Im H (.tup cs) (.tuple xs)
 |isl0 (sz get p):ConI Im H (.isl 0 sz get) (.slice p 0 0)
 |isl (n sz get b off cap) (arr:Array Value) (T fr) (him:Im b) (hb:H[b]? =some (.cells arr T fr)) (hsz:∀i,i<n->(get i).length=sz) (hn:n<=cap) (hbd:n<=slMax)
   (hfit:off+n*sz<=arr.size) (h:∀(i j:Nat) (c:AV) (x:Value),i<n->(get i)[j]? =some c->arr[off+i*sz+j]? =some x->ConI Im H c x):ConI Im H (.isl n sz get) (.slice (some ⟨b,off,none⟩) n cap)
 |icap (n sz get b off) (arr:Array Value) (T fr) (him:Im b) (hb:H[b]? =some (.cells arr T fr)) (hsz:∀i,i<n->(get i).length=sz) (hn:0<n) (hbd:n<=slMax)
   (hfit:off+n*sz<=arr.size) (h:∀(i j:Nat) (c:AV) (x:Value),i<n->(get i)[j]? =some c->arr[off+i*sz+j]? =some x->ConI Im H c x):ConI Im H (.icap n sz get) (.slice (some ⟨b,off,none⟩) n n)
 |eptr (n sz get i j b off) (arr:Array Value) (T fr) (him:Im b) (hb:H[b]? =some (.cells arr T fr)) (hsz:∀i,i<n->(get i).length=sz)
   (hfit:off+n*sz<=arr.size) (h:∀(i j:Nat) (c:AV) (x:Value),i<n->(get i)[j]? =some c->arr[off+i*sz+j]? =some x->ConI Im H c x) (hi:i<n):ConI Im H (.eptr n sz get i j) (.pointer (some ⟨b,off+i*sz+j,none⟩))
 |ibox (cells off b) (arr:Array Value) (T fr) (him:Im b) (hb:H[b]? =some (.cells arr T fr)) (hl:arr.size=cells.length)
   (h:∀(i:Nat) (c:AV) (x:Value),cells[i]? =some c->arr[i]? =some x->ConI Im H c x):ConI Im H (.ibox cells off) (.pointer (some ⟨b,off,none⟩))
theorem ConI.mono{Im Im':Nat->Prop}{H H':Heap}(hI:∀b,Im b->Im' b)(hH:∀b,Im b->H'[b]? =H[b]?){v:AV}{x:Value}(h:ConI Im H v x):ConI Im' H' v x:=by
 induction h with
 |int|bool|str|junk|nils|emp|niface|nfunc|nptr|nmap|isl0=>constructor
 |iface _ _ _ _ ih=>exact .iface _ _ _ ih
 |fn f caps xs hl _ ih=>exact .fn f caps xs hl ih
 |agg cs xs hl _ ih=>exact .agg cs xs hl ih
 |tup cs xs hl _ ih=>exact .tup cs xs hl ih
 |isl n sz get b off cap arr T fr him hb hsz hn hbd hfit _ ih=>exact .isl n sz get b off cap arr T fr (hI _ him) ((hH _ him).trans hb) hsz hn hbd hfit ih
 |icap n sz get b off arr T fr him hb hsz hn hbd hfit _ ih=>exact .icap n sz get b off arr T fr (hI _ him) ((hH _ him).trans hb) hsz hn hbd hfit ih
 |eptr n sz get i j b off arr T fr him hb hsz hfit _ hi ih=>exact .eptr n sz get i j b off arr T fr (hI _ him) ((hH _ him).trans hb) hsz hfit ih hi
 |ibox cells off b arr T fr him hb hl _ ih=>exact .ibox cells off b arr T fr (hI _ him) ((hH _ him).trans hb) hl ih
abbrev Loc:=Nat->Option Nat×Nat
inductive Con(ρ:Loc)(Im:Nat->Prop)(H:Heap):AV->Value->Prop
 |imm (v x) (h:ConI Im H v x):Con ρ Im H v x
 |lptr (id off b) (h:(ρ id).1=some b):Con ρ Im H (.lptr id off) (.pointer (some ⟨b,off,none⟩))
 |osl (id n) (hbd:n<=dZ) (hne:n≠0->(ρ id).1≠none) (hnc:n<=(ρ id).2):Con ρ Im H (.osl id n) (.slice ((ρ id).1.map λb=>⟨b,0,none⟩) n (ρ id).2)
 |osub (id off n sz cap) (p:Option Addr) (hbd:n<=dZ) (hp:n≠0->∃b,(ρ id).1=some b/\p=some ⟨b,off*sz,none⟩) (hnc:n<=cap):Con ρ Im H (.osub id off n sz) (.slice p n cap)
 |optr (id sz i j b) (h:(ρ id).1=some b):Con ρ Im H (.optr id sz i j) (.pointer (some ⟨b,i*sz+j,none⟩))
 |mref (id b) (h:(ρ id).1=some b):Con ρ Im H (.mref id) (.map (some b))
 |yld (id b) (h:(ρ id).1=some b):Con ρ Im H (.yld id) (.func (.yield b) #[] #[])
 |fn (f caps) (xs:Array Value) (hl:xs.size=caps.length) (h:∀(i:Nat) (c:AV) (x:Value),caps[i]? =some c->xs[i]? =some x->Con ρ Im H c x):Con ρ Im H (.fn f caps) (.func (.func f) #[] xs)
 |agg (cs) (xs:Array Value) (hl:xs.size=cs.length) (h:∀(i:Nat) (c:AV) (x:Value),cs[i]? =some c->xs[i]? =some x->Con ρ Im H c x):Con ρ Im H (.agg cs) (.agg xs)
 |tup (cs) (xs:Array Value) (hl:xs.size=cs.length) (h:∀(i:Nat) (c:AV) (x:Value),cs[i]? =some c->xs[i]? =some x->Con ρ Im H c x):Con ρ Im H (.tup cs) (.tuple xs)
theorem Con.mono{ρ:Loc}{Im Im':Nat->Prop}{H H':Heap}(hI:∀b,Im b->Im' b)(hH:∀b,Im b->H'[b]? =H[b]?){v:AV}{x:Value}(h:Con ρ Im H v x):Con ρ Im' H' v x:=by
 induction h with
 |imm v x h=>exact .imm v x (h.mono hI hH)
 |lptr id off b h=>exact .lptr id off b h
 |osl id n hbd hne hnc=>exact .osl id n hbd hne hnc
 |osub id off n sz cap p h1 h2 h3=>exact .osub id off n sz cap p h1 h2 h3
 |optr id sz i j b h=>exact .optr id sz i j b h
 |mref id b h=>exact .mref id b h
 |yld id b h=>exact .yld id b h
 |fn f caps xs hl _ ih=>exact .fn f caps xs hl ih
 |agg cs xs hl _ ih=>exact .agg cs xs hl ih
 |tup cs xs hl _ ih=>exact .tup cs xs hl ih
def Cons(ρ:Loc)(Im:Nat->Prop)(H:Heap)(cs:List AV)(xs:Array Value):Prop :=
 xs.size=cs.length/\∀(i:Nat) (c:AV) (x:Value),cs[i]? =some c->xs[i]? =some x->Con ρ Im H c x
inductive Names(id:Nat):AV->Prop
 |lptr (off):Names id (.lptr id off)
 |osl (n):Names id (.osl id n)
 |osub (off n sz):Names id (.osub id off n sz)
 |optr (sz i j):Names id (.optr id sz i j)
 |mref:Names id (.mref id)
 |yld:Names id (.yld id)
 |fn (f caps c) (hm:c∈caps) (h:Names id c):Names id (.fn f caps)
 |agg (cs c) (hm:c∈cs) (h:Names id c):Names id (.agg cs)
 |tup (cs c) (hm:c∈cs) (h:Names id c):Names id (.tup cs)
theorem Con.reloc{ρ ρ':Loc}{Im:Nat->Prop}{H:Heap}{v:AV}{x:Value}(h:Con ρ Im H v x)(hρ:∀id,Names id v->ρ' id=ρ id):Con ρ' Im H v x:=by
 induction h with
 |imm v x h=>exact .imm v x h
 |lptr id off b h=>exact .lptr id off b (by rw[hρ id (.lptr off)];exact h)
 |osl id n hbd hne hnc=>rw[<-hρ id (.osl n)]at hne hnc⊢;exact .osl id n hbd hne hnc
 |osub id off n sz cap p h1 h2 h3=>exact .osub id off n sz cap p h1 (by rw[hρ id (.osub off n sz)];exact h2) h3
 |optr id sz i j b h=>exact .optr id sz i j b (by rw[hρ id (.optr sz i j)];exact h)
 |mref id b h=>exact .mref id b (by rw[hρ id .mref];exact h)
 |yld id b h=>exact .yld id b (by rw[hρ id .yld];exact h)
 |fn f caps xs hl _ ih=>exact .fn f caps xs hl λi c x hc hx=>ih i c x hc hx λid hn=>hρ id (.fn f caps c (List.mem_of_getElem? hc) hn)
 |agg cs xs hl _ ih=>exact .agg cs xs hl λi c x hc hx=>ih i c x hc hx λid hn=>hρ id (.agg cs c (List.mem_of_getElem? hc) hn)
 |tup cs xs hl _ ih=>exact .tup cs xs hl λi c x hc hx=>ih i c x hc hx λid hn=>hρ id (.tup cs c (List.mem_of_getElem? hc) hn)
inductive LObj where
 |box (cells:List AV)
 |arr (n sz:Nat) (get:Nat->List AV) (T:TypeId)
 |map (kvs:List (AV×AV))
 |lrec (st:LoopState) (pe:Option Code) (ks:List Nat) (cs:List AV) (ps:Array Tmp) (assign body:Code) (nt:Nat)
 |dead
abbrev Xa:=List (List Int)
abbrev Xb:=List (Nat×Option LObj)
abbrev Xc:=List (Nat×LObj)
abbrev Xd:=Nat->Option LObj
def LObj.live:LObj->Bool
 |.dead=>false
 |_=>true
def LObj.isRec:LObj->Bool
 |.lrec ..=>true
 |_=>false
inductive NamesO(id:Nat):LObj->Prop
 |box (cells c) (hm:c∈cells) (h:Names id c):NamesO id (.box cells)
 |arr (n sz get T i c) (hi:i<n) (hm:c∈get i) (h:Names id c):NamesO id (.arr n sz get T)
 |mapK (kvs k v) (hm:(k,v)∈kvs) (h:Names id k):NamesO id (.map kvs)
 |mapV (kvs k v) (hm:(k,v)∈kvs) (h:Names id v):NamesO id (.map kvs)
 |lrec (st pe ks cs ps assign body nt c) (hm:c∈cs) (h:Names id c):NamesO id (.lrec st pe ks cs ps assign body nt)
structure RecOk(r:Loop)(st:LoopState)(pe:Option Code)(ks:List Nat)(cs:List AV)(ps:Array Tmp)(assign body:Code)(nt:Nat):Prop where
 st:r.state=st
 pe:r.pending=pe
 ps:r.params=ps
 assign:r.assign=assign
 body:r.body=body
 nt:r.tmps.size=nt
 len:ks.length=cs.length
inductive ObjCon(ρ:Loc)(Im:Nat->Prop)(H:Heap)(id:Nat):LObj->Prop
 |dead:ObjCon ρ Im H id .dead
 |box (cells b) (xs:Array Value) (T) (hρ:(ρ id).1=some b) (hb:H[b]? =some (.cells xs T (0,0))) (hc:Cons ρ Im H cells xs):ObjCon ρ Im H id (.box cells)
 |arr0 (sz get T) (hρ:ρ id=(none,0)):ObjCon ρ Im H id (.arr 0 sz get T)
 |arr (n sz get T b) (xs:Array Value) (hρ:(ρ id).1=some b) (hb:H[b]? =some (.cells xs T (0,0))) (hn:n<=(ρ id).2) (hcap:(ρ id).2<=maxLen) (hxs:xs.size=(ρ id).2*sz)
   (hbd:n<=dZ) (hsz:∀i,i<n->(get i).length=sz)
   (hc:∀(i j:Nat) (c:AV) (x:Value),i<n->(get i)[j]? =some c->xs[i*sz+j]? =some x->Con ρ Im H c x):ObjCon ρ Im H id (.arr n sz get T)
 |map (kvs b) (es:Array MapEntry) (clock) (hρ:(ρ id).1=some b) (hb:H[b]? =some (.map es clock)) (hl:es.size=kvs.length)
   (hc:∀(i:Nat) (k v:AV) (e:MapEntry),kvs[i]? =some (k,v)->es[i]? =some e->Con ρ Im H k e.key/\Con ρ Im H v e.val):ObjCon ρ Im H id (.map kvs)
 |lrec (st pe ks cs ps assign body nt b) (r:Loop) (hρ:(ρ id).1=some b) (hb:H[b]? =some (.loop r)) (hr:RecOk r st pe ks cs ps assign body nt)
   (hc:∀(i k:Nat) (c:AV),ks[i]? =some k->cs[i]? =some c->∃x,r.tmps[k]? =some x/\Con ρ Im H c x):ObjCon ρ Im H id (.lrec st pe ks cs ps assign body nt)
structure World0 extends World where
 ro:Option Nat
 deriving Inhabited
structure Frm where
 w0:World0
 Im0:Nat->Prop
 pid:List Nat
 ρ0:Loc
 nt:Nat
structure Mem(X:Frm)(ρ:Loc)(Im:Nat->Prop)(o:Xd)(w:World):Prop where
 objs:∀id ob,o id=some ob->ObjCon ρ Im w.heap id ob
 own:∀id ob b,o id=some ob->ob.live=true->(ρ id).1=some b->¬Im b/\b<w.heap.size/\(X.w0.heap.size<=b\/id∈X.pid)
 inj:∀id id' ob ob' b,o id=some ob->ob.live=true->o id'=some ob'->ob'.live=true->(ρ id).1=some b->(ρ id').1=some b->id=id'
 ocl:∀id ob,o id=some ob->∀i,NamesO i ob->o i≠none
 imlt:∀b,Im b->b<w.heap.size
 im0:∀b,X.Im0 b->Im b
 imf:∀b,Im b->X.Im0 b\/X.w0.heap.size<=b\/∃id,id∈X.pid/\(X.ρ0 id).1=some b
 os:w.os=X.w0.os
 tape:w.tape=X.w0.tape
 output:w.output=X.w0.output
 size:X.w0.heap.size<=w.heap.size
 frame:∀b,b<X.w0.heap.size->(∀id,id∈X.pid->(X.ρ0 id).1≠some b)->w.heap[b]? =X.w0.heap[b]?
 pin:∀id,id∈X.pid->ρ id=X.ρ0 id/\o id≠none
 lrc:∀(l:Nat) (r:Loop),X.w0.heap[l]? =some (.loop r)->∃st pe,w.heap[l]? =some (.loop { r with state:=st,pending:=pe })
 rnd:∀l,X.w0.ro=some l->∃r,X.w0.heap[l]? =some (.loop r)
structure DefOk(X:Frm)(Im:Nat->Prop)(H:Heap)(ds:List Deferred):Prop where
 mark:∀d∈ds,∃D,d={ target:=.collected D,args:=#[] }/\H[D]? =some (.deferred (some []))/\¬Im D/\X.w0.heap.size<=D
 nd:ds.Nodup
theorem DefOk.nil(X:Frm)(Im:Nat->Prop)(H:Heap):DefOk X Im H []:=⟨λd hd=>by simp at hd,List.nodup_nil⟩
theorem DefOk.mono{X:Frm}{Im Im':Nat->Prop}{H H':Heap}{ds:List Deferred}(h:DefOk X Im H ds)(hH:∀D:Nat,H[D]? =some (Obj.deferred (some []))->H'[D]? =H[D]?)
  (hI:∀D:Nat,H[D]? =some (Obj.deferred (some []))->¬Im D->¬Im' D):DefOk X Im' H' ds :=
 ⟨λd hd=>let⟨D,h1,h2,h3,h4⟩:=h.mark d hd;⟨D,h1,(hH D h2).trans h2,hI D h2 h3,h4⟩,h.nd⟩
structure RelAt(X:Frm)(ρ:Loc)(Im:Nat->Prop)(s:Nat->Option AV)(o:Xd)(a:Act)(w:World):Prop extends Mem X ρ Im o w where
 slots:∀k v,s k=some v->∃x,a.tmps[k]? =some x/\Con ρ Im w.heap v x
 scl:∀k v,s k=some v->∀i,Names i v->o i≠none
 defers:DefOk X Im w.heap a.defers
 nt:a.tmps.size=X.nt
def Rel(X:Frm)(s:Nat->Option AV)(o:Xd)(a:Act)(w:World):Prop:=∃ρ Im,RelAt X ρ Im s o a w
structure Eff where
 rs:List Nat:=[]
 ro:List Nat:=[]
 ws:Option (Nat×AV):=none
 wo:Xb:=[]
def Eff.onS(E:Eff)(s:Nat->Option AV):Nat->Option AV :=
 match E.ws with
 |some (d,v)=>λk=>if k=d then some v else s k
 |none=>s
def luO:Xb->(Xd)->Nat->Option LObj
 |[],o,i=>o i
 |(j,x)::r,o,i=>if i=j then x else luO r o i
def Eff.onO(E:Eff)(o:Xd):Xd:=luO E.wo o
def rf(ro:Option Nat):Fence:={ Fence.wide with round:=ro }
def opW(P:Program)(X:Frm)(op:Oper)(a:Act)(w:World)(next:Act->World->Prop):Prop:=op.wpIn (rf X.w0.ro) 0 P a w next (λ_ _ _=>False)
def StepT(P:Program)(X:Frm)(ops:Array Oper)(op:Oper)(s:Nat->Option AV)(o:Xd)(s':Nat->Option AV)(o':Xd):Prop :=
 ∀a w,Rel X s o a w->if Region.wanted op (yielded ops a.tmps)then opW P X op a w (λa' w'=>Rel X s' o' a' w')else Rel X s' o' (a.put op.dst undef) w
def bt(P:Program)(X:Frm)(ops:Array Oper)(op:Oper)(s:Nat->Option AV)(o:Xd)(E:Eff):Prop :=
 ∀s' o',(∀k∈E.rs,s' k=s k)->(∀i∈E.ro,o' i=o i)->StepT P X ops op s' o' (E.onS s') (E.onO o')
def tv(P:Program)(X:Frm)(ops:Array Oper):List (Oper×Eff)->(Nat->Option AV)->(Xd)->Prop
 |[],_,_=>True
 |(op,E)::r,s,o=>bt P X ops op s o E/\tv P X ops r (E.onS s) (E.onO o)
def finS(l:List (Oper×Eff))(s:Nat->Option AV):Nat->Option AV:=l.foldl (λs p=>p.2.onS s) s
def finO(l:List (Oper×Eff))(o:Xd):Xd:=l.foldl (λo p=>p.2.onO o) o
def Eff.wk(E:Eff):List Nat:=match E.ws with |some (d,_)=>[d]|none=>[]
def Eff.ok(E:Eff):List Nat:=E.wo.map (·.1)
def disj(a b:List Nat):Bool:=a.all λx=>!b.contains x
def zj(E F:Eff):Bool:=disj E.wk F.rs&&disj E.wk F.wk&&disj F.wk E.rs&&disj E.ok F.ro&&disj E.ok F.ok&&disj F.ok E.ro
theorem gJ{a b:List Nat}(h:disj a b=true):∀x,x∈a->x∉b:=by
 intro x hx;simp only[disj,List.all_eq_true]at h;simpa using h x hx
theorem Eff.onS_other{E:Eff}{s:Nat->Option AV}{k:Nat}(h:k∉E.wk):E.onS s k=s k:=by
 unfold Eff.onS;unfold Eff.wk at h;cases he:E.ws with
 |none=>rfl
 |some p=>
  simp only[he,List.mem_singleton]at h;simp[h]
theorem AP{l:Xb}{o:Xd}{i:Nat}(h:i∉l.map (·.1)):luO l o i=o i:=by
 induction l with
 |nil=>rfl
 |cons p r ih=>
  obtain⟨j,x⟩:=p;simp only[List.map_cons,List.mem_cons,not_or]at h;simp only[luO,if_neg h.1];exact ih h.2
theorem AQ{l:Xb}{i:Nat}(h:i∈l.map (·.1))(o o':Xd):luO l o i=luO l o' i:=by
 induction l with
 |nil=>simp at h
 |cons p r ih=>
  obtain⟨j,x⟩:=p;simp only[luO];split
  ·rfl
  ·rename_i hne;simp only[List.map_cons,List.mem_cons,hne,false_or]at h;exact ih h
theorem Eff.onO_other{E:Eff}{o:Xd}{i:Nat}(h:i∉E.ok):E.onO o i=o i:=AP h
theorem xw{E F:Eff}(h:disj E.wk F.wk=true)(s:Nat->Option AV):F.onS (E.onS s)=E.onS (F.onS s):=by
 funext k;unfold Eff.onS;unfold Eff.wk at h;cases hE:E.ws with
 |none=>rfl
 |some p=>
  obtain⟨d,v⟩:=p;cases hF:F.ws with
  |none=>rfl
  |some q=>
   obtain⟨e,u⟩:=q;simp only[hE,hF]at h;have hne:d≠e:=by simpa using gJ h d η
   by_cases h1:k=e
   ·subst h1;simp[Ne.symm hne]
   ·simp[h1]
theorem xz{E F:Eff}(h:disj E.ok F.ok=true)(o:Xd):F.onO (E.onO o)=E.onO (F.onO o):=by
 funext i;by_cases hE:i∈E.ok
 ·have hF:i∉F.ok:=gJ h i hE;rw[Eff.onO_other hF];exact AQ hE _ _
 ·rw[Eff.onO_other hE];by_cases hF:i∈F.ok
  ·exact AQ hF _ _
  ·rw[Eff.onO_other hF,Eff.onO_other hF,Eff.onO_other hE]
section
variable {P:Program} {X:Frm} {ops:Array Oper}
theorem bt.congr{op:Oper}{s s':Nat->Option AV}{o o':Xd}{E:Eff}(h:bt P X ops op s o E)(hs:∀k∈E.rs,s' k=s k)(ho:∀i∈E.ro,o' i=o i):bt P X ops op s' o' E :=
 λs2 o2 h1 h2=>h s2 o2 (λk hk=>(h1 k hk).trans (hs k hk)) (λi hi=>(h2 i hi).trans (ho i hi))
theorem zk{E F:Eff}(h:zj E F=true):disj E.wk F.rs=true/\disj E.wk F.wk=true/\disj F.wk E.rs=true/\disj E.ok F.ro=true/\disj E.ok F.ok=true/\disj F.ok E.ro=true:=by
 simp only[zj,Bool.and_eq_true]at h;obtain⟨⟨⟨⟨⟨h1,h2⟩,h3⟩,h4⟩,h5⟩,h6⟩:=h;exact⟨h1,h2,h3,h4,h5,h6⟩
theorem n9:∀(l1:List (Oper×Eff)) (op:Oper) (F:Eff) (l2:List (Oper×Eff)) (s:Nat->Option AV) (o:Xd),
  (∀p∈l1,zj p.2 F=true)->tv P X ops (l1++(op,F)::l2) s o->
  bt P X ops op s o F/\tv P X ops (l1++l2) (F.onS s) (F.onO o)/\finS (l1++(op,F)::l2) s=finS (l1++l2) (F.onS s)/\finO (l1++(op,F)::l2) o=finO (l1++l2) (F.onO o)
 |[],_,_,_,_,_,_,h=>⟨h.1,h.2,rfl,rfl⟩
 |(op1,E)::r,op,F,l2,s,o,hi,h=>by
  obtain⟨h1,h2⟩:=h;have hE:=zk (hi (op1,E) η);obtain⟨e1,e2,e3,e4,e5,e6⟩:=hE;obtain⟨g1,g2,g3,g4⟩:=n9 r op F l2 (E.onS s) (E.onO o) (λp hp=>hi p (by simp[hp])) h2;refine⟨g1.congr (λk hk=>?_) (λi hk=>?_),⟨h1.congr (λk hk=>?_) (λi hk=>?_),?_⟩,?_,?_⟩
  ·exact(Eff.onS_other (λhm=>gJ e1 k hm hk)).symm
  ·exact(Eff.onO_other (λhm=>gJ e4 i hm hk)).symm
  ·exact Eff.onS_other (λhm=>gJ e3 k hm hk)
  ·exact Eff.onO_other (λhm=>gJ e6 i hm hk)
  ·rw[<-xw e2,<-xz e5];exact g2
  ·simp only[finS,List.cons_append,List.foldl_cons]at *;rw[g3,xw e2]
  ·simp only[finO,List.cons_append,List.foldl_cons]at *;rw[g4,xz e5]
theorem gC{Q:Exit->Act->World->Prop}:∀(l:List (Oper×Eff)) (k:Nat) (s:Nat->Option AV) (o:Xd) (a:Act) (w:World),
  (∀j,(l[j]?).map (·.1)=ops[k+j]?)->tv P X ops l s o->Rel X s o a w->(∀a' w',Rel X (finS l s) (finO l o) a' w'->Q .normal a' w')->
  wpOpsIn (rf X.w0.ro) 0 P ops Q (List.range' k l.length) a w
 |[],_,_,_,a,w,_,_,hr,hQ=>hQ a w hr
 |(op,E)::r,k,s,o,a,w,hl,hc,hr,hQ=>by
  have h0:ops[k]? =some op:=by simpa using(hl 0).symm
  have hrest:∀a' w',Rel X (E.onS s) (E.onO o) a' w'->wpOpsIn (rf X.w0.ro) 0 P ops Q (List.range' (k+1) r.length) a' w':=λa' w' hr'=>
   gC r (k+1) _ _ a' w' (λj=>by have:=hl (j+1);simpa[Nat.add_assoc,Nat.add_comm 1 j]using this) hc.2 hr' (λa2 w2 h2=>hQ a2 w2 (by simpa[finS,finO]using h2))
  have hst:=hc.1 s o (λ_ _=>rfl) (λ_ _=>rfl) a w hr;rw[List.length_cons,List.range'_succ];simp only[wpOpsIn,h0];split
  ·rename_i hw;rw[if_pos hw]at hst;exact Oper.wpIn_exits (Oper.wpIn_mono (K':=λa w=>wpOpsIn (rf X.w0.ro) 0 P ops Q (List.range' (k+1) r.length) a w) hrest hst)
  ·rename_i hw;rw[if_neg hw]at hst;exact⟨λ_ _=>trivial,hrest _ _ hst⟩
where
 Oper.wpIn_exits {F:Fence} {n:Nat} {o:Oper} {a:Act} {w:World} {K:Act->World->Prop} {Q:Exit->Act->World->Prop} (h:o.wpIn F n P a w K (λ_ _ _=>False)):o.wpIn F n P a w K Q:=by
  unfold Oper.wpIn at *;refine⟨h.1,?_⟩;have h:=h.2;generalize (o.semAt F.round a.eval).run P w=r at *;cases r with
  |ok n w'=>
   cases n<;>simp only[Oper.uponIn]at h⊢ <;>
    first|exact h|exact⟨h.1,CallsIn.mono h.2 (λe w'' he=>by cases e<;>first|exact he|exact he.elim|(obtain⟨_,_,hf⟩:=he;exact hf.elim))⟩|exact⟨h.1,RoundIn.mono h.2 (λe w'' he=>by cases e<;>first|exact he|exact he.elim|(obtain⟨_,_,hf⟩:=he;exact hf.elim))⟩
  |halt x w'=>cases x<;>simp only[Oper.uponIn]at h⊢
def zn(ops:Array Oper):Nat->Nat->Nat->Bool
 |0,_,_=>false
 |n+1,j,i=>match ops[j]? with
  |some o=>o.after.toList.any λe=>Region.binds .any e&&(e.on==i||(decide (i<e.on)&&zn ops n e.on i))
  |none=>false
def back(ops:Array Oper):Bool:=(List.range ops.size).all λj=>match ops[j]? with
 |some o=>o.after.toList.all λe=>!Region.binds .any e||decide (e.on<j)
 |none=>true
theorem AR(h:back ops=true){j:Nat}{o:Oper}(ho:ops[j]? =some o):∀e∈o.after,Region.binds .any e=true->e.on<j:=by
 intro e he hb;simp only[back,List.all_eq_true]at h;have hj:j<ops.size:=(Array.getElem?_eq_some_iff.1 ho).1;have:=h j (List.mem_range.2 hj);simp only[ho,List.all_eq_true]at this;have:=this e (by simpa using he);simp only[hb,Bool.not_true,Bool.false_or,decide_eq_true_eq]at this;exact this
def Down(ops:Array Oper)(listed:Array Bool):Prop:=∀j o,ops[j]? =some o->listed.getD j false=true->∀e∈o.after,Region.binds .any e=true->listed.getD e.on false=true
theorem tw{listed:Array Bool}(hd:Down ops listed):∀(n j i:Nat),zn ops n j i=true->
  (∀o,ops[j]? =some o->∀e∈o.after,Region.binds .any e=true->listed.getD e.on false=true)->listed.getD i false=true:=by
 intro n;induction n with
 |zero=>intro j i h;simp[zn]at h
 |succ n ih=>
  intro j i h hall;simp only[zn]at h;cases ho:ops[j]? with
  |none=>simp[ho]at h
  |some o=>
   simp only[ho,List.any_eq_true,Bool.and_eq_true,Bool.or_eq_true,beq_iff_eq,decide_eq_true_eq]at h;obtain⟨e,he,hb,h1⟩:=h;replace he:e∈o.after:=by simpa using he
   have hl:=hall o ho e he hb;rcases h1 with h1|⟨_,h1⟩
   ·rw[<-h1];exact hl
   ·exact ih e.on i h1 (λo2 ho2 e2 he2 hb2=>hd e.on o2 ho2 hl e2 he2 hb2)
def e8(ops:Array Oper):List (Nat×Eff)->Bool
 |[]=>true
 |(i,E)::r=>r.all (λq=>zj E q.2||zn ops ops.size q.1 i)&&e8 ops r
theorem mG:∀(l1:List (Nat×Eff)) (q:Nat×Eff) (l2:List (Nat×Eff)),e8 ops (l1++q::l2)=true->∀p∈l1,zj p.2 q.2=true\/zn ops ops.size q.1 p.1=true
 |[],_,_,_,p,hp=>by simp at hp
 |(i,E)::r,q,l2,h,p,hp=>by
  simp only[List.cons_append,e8,Bool.and_eq_true,List.all_eq_true]at h;rcases List.mem_cons.1 hp with rfl|hp
  ·have:=h.1 q η;simpa[Bool.or_eq_true]using this
  ·exact mG r q l2 h.2 p hp
theorem mH:∀(l1:List (Nat×Eff)) (q:Nat×Eff) (l2:List (Nat×Eff)),e8 ops (l1++q::l2)=true->e8 ops (l1++l2)=true
 |[],_,_,h=>by simp only[List.nil_append,e8,Bool.and_eq_true]at h⊢;exact h.2
 |(i,E)::r,q,l2,h=>by
  simp only[List.cons_append,e8,Bool.and_eq_true,List.all_eq_true]at h⊢;refine⟨λx hx=>h.1 x ?_,mH r q l2 h.2⟩;rcases List.mem_append.1 hx with hx|hx<;>simp[hx]
structure Left(ops:Array Oper)(listed:Array Bool)(R:List (Nat×Oper×Eff)):Prop where
 is:∀p∈R,ops[p.1]? =some p.2.1
 un:∀k o,ops[k]? =some o->(listed.getD k false=false↔k∈R.map (·.1))
 nd:(R.map (·.1)).Nodup
 asc:(R.map (·.1)).Pairwise (·< ·)
theorem pJ{Q:Exit->Act->World->Prop}(hback:back ops=true):∀(fuel:Nat) (R:List (Nat×Oper×Eff)) (listed:Array Bool) (s:Nat->Option AV) (o:Xd) (a:Act) (w:World),
  R.length=fuel->listed.size=ops.size->Left ops listed R->Down ops listed->e8 ops (R.map λp=>(p.1,p.2.2))=true->tv P X ops (R.map (·.2)) s o->Rel X s o a w->
  (∀a' w',Rel X (finS (R.map (·.2)) s) (finO (R.map (·.2)) o) a' w'->Q .normal a' w')->wpAnyIn (rf X.w0.ro) 0 P .any ops Q fuel listed a w:=by
 intro fuel;induction fuel with
 |zero=>
  intro R listed s o a w hlen hsz hleft hd hp hc hr hQ;have hR:R=[]:=List.eq_nil_of_length_eq_zero hlen;subst hR;refine⟨?_,hQ a w hr⟩;rw[List.eq_nil_iff_forall_not_mem];intro j hj;obtain⟨h0,oj,hoj,_⟩:=mem_ready.1 hj;have:=(hleft.un j oj hoj).1 (by
   have hlt:j<listed.size:=by rw[hsz];exact(Array.getElem?_eq_some_iff.1 hoj).1
   simp[hlt]at h0⊢;exact h0)
  simp at this
 |succ fuel ih=>
  intro R listed s o a w hlen hsz hleft hd hp hc hr hQ;refine⟨λhnil=>?_,λi hi=>?_⟩
  ·--the first that is left is ready
   exfalso;match R,hlen with
   |p::R',_=>
    have hop:=hleft.is p η;have hpl:p.1<listed.size:=by rw[hsz];exact(Array.getElem?_eq_some_iff.1 hop).1
    have hpun:listed.getD p.1 false=false:=(hleft.un p.1 p.2.1 hop).2 η;have:p.1∈Region.ready .any ops listed:=by
     rw[mem_ready];refine⟨by simp[hpl]at hpun⊢;exact hpun,p.2.1,hop,λe he hb=>?_⟩;have hlt:=AR hback hop e he hb;have hex:∃oe,ops[e.on]? =some oe:=⟨ops[e.on]'(by rw[<-hsz];omega),by simp⟩;obtain⟨oe,hoe⟩:=hex;cases hl:listed.getD e.on false with
     |true=>rfl
     |false=>
      have hm:=(hleft.un e.on oe hoe).1 hl;have hasc:=hleft.asc;simp only[List.map_cons,List.pairwise_cons]at hasc;simp only[List.map_cons,List.mem_cons]at hm;rcases hm with hm|hm
      ·omega
      ·have:=hasc.1 e.on hm;omega
    rw[hnil]at this;cases this
  ·obtain⟨h0,oi,hoi,hall⟩:=mem_ready.1 hi;have hilt:i<listed.size:=by rw[hsz];exact(Array.getElem?_eq_some_iff.1 hoi).1
   have hun:listed.getD i false=false:=by simp[hilt]at h0⊢;exact h0
   have hm:=(hleft.un i oi hoi).1 hun;obtain⟨p,hpR,hpi⟩:=List.mem_map.1 hm;obtain⟨R1,R2,hR⟩:=List.append_of_mem hpR;obtain⟨i',op,F⟩:=p;simp only at hpi;subst hpi;have hop:ops[i']? =some op:=hleft.is _ hpR;have hoo:oi=op:=Option.some.inj (hoi.symm.trans hop);subst hoo;subst hR;have hind:∀q∈R1.map (·.2),zj q.2 F=true:=by
    intro q hq;obtain⟨r,hr1,rfl⟩:=List.mem_map.1 hq;have hp':e8 ops (R1.map (λp=>(p.1,p.2.2))++(i',F)::R2.map (λp=>(p.1,p.2.2)))=true:=by simpa using hp
    rcases mG _ _ _ hp' (r.1,r.2.2) (List.mem_map.2 ⟨r,hr1,rfl⟩)with h|h
    ·exact h
    ·exfalso;have hl:=tw hd _ _ _ h (fun o2 ho2 e he hb=>by
      have:oi=o2:=Option.some.inj (hop.symm.trans ho2);subst this;exact hall e he hb)
     have hrun:=(hleft.un r.1 r.2.1 (hleft.is r (by simp[hr1]))).2 (by simp only[List.map_append,List.mem_append,List.mem_map];exact .inl ⟨r,hr1,rfl⟩);rw[hl]at hrun;cases hrun
   have hc':tv P X ops (R1.map (·.2)++(oi,F)::R2.map (·.2)) s o:=by simpa using hc
   obtain⟨g1,g2,g3,g4⟩:=n9 _ _ _ _ _ _ hind hc';have hrest:∀a' w',Rel X (F.onS s) (F.onO o) a' w'->wpAnyIn (rf X.w0.ro) 0 P .any ops Q fuel (listed.setIfInBounds i' true) a' w':=by
    intro a' w' hr';refine ih (R1++R2) _ _ _ a' w' (by simp at hlen⊢;omega) (by simpa using hsz) ⟨λp hp=>hleft.is p ?_,λk ok hk=>?_,?_,?_⟩ ?_ ?_ ?_ hr' (λa2 w2 h2=>hQ a2 w2 ?_)
    ·rcases List.mem_append.1 hp with hp|hp<;>simp[hp]
    ·have hnd:=hleft.nd;simp only[List.map_append,List.map_cons,List.nodup_append,List.nodup_cons]at hnd;by_cases hki:i'=k
     ·subst hki;simp only[List.map_append,List.mem_append];constructor
      ·intro hf;simp[hilt]at hf
      ·rintro(hf|hf)
       ·exact absurd rfl (hnd.2.2 i' hf i' η)
       ·exact absurd hf hnd.2.1.1
     ·rw[getD_set_ne false hki,hleft.un k ok hk];simp only[List.map_append,List.map_cons,List.mem_append,List.mem_cons];constructor
      ·rintro(h|h|h)
       ·exact .inl h
       ·exact absurd h.symm hki
       ·exact .inr h
      ·rintro(h|h)
       ·exact .inl h
       ·exact .inr (.inr h)
    ·have hnd:=hleft.nd;simp only[List.map_append,List.map_cons,List.nodup_append,List.nodup_cons]at hnd⊢;exact⟨hnd.1,hnd.2.1.2,λx hx y hy=>hnd.2.2 x hx y (by simp[hy])⟩
    ·have hasc:=hleft.asc;simp only[List.map_append,List.map_cons,List.pairwise_append,List.pairwise_cons]at hasc⊢;exact⟨hasc.1,hasc.2.1.2,λx hx y hy=>hasc.2.2 x hx y (by simp[hy])⟩
    ·intro j oj hoj hlj e he hb;by_cases hij:i'=j
     ·subst hij;have:oi=oj:=Option.some.inj (hop.symm.trans hoj);subst this;exact getD_set_true (hall e he hb)
     ·rw[getD_set_ne false hij]at hlj;exact getD_set_true (hd j oj hoj hlj e he hb)
    ·have hp':e8 ops (R1.map (λp=>(p.1,p.2.2))++(i',F)::R2.map (λp=>(p.1,p.2.2)))=true:=by simpa using hp
     simpa using mH _ _ _ hp'
    ·simpa using g2
    ·have e1:finS (List.map (·.2) (R1++(i',oi,F)::R2)) s=finS (List.map (·.2) (R1++R2)) (F.onS s):=by simpa using g3
     have e2:finO (List.map (·.2) (R1++(i',oi,F)::R2)) o=finO (List.map (·.2) (R1++R2)) (F.onO o):=by simpa using g4
     rw[e1,e2];exact h2
   have hst:=g1 s o (λ_ _=>rfl) (λ_ _=>rfl) a w hr;unfold wpOpIn;simp only[hoi];split
   ·rename_i hw;rw[if_pos hw]at hst;exact gC.Oper.wpIn_exits (Oper.wpIn_mono hrest hst)
   ·rename_i hw;rw[if_neg hw]at hst;exact⟨λ_ _=>trivial,hrest _ _ hst⟩
end
def ck(b:Bool)(p:Prop):Prop:=match b with
 |true=>p
 |false=>False
theorem aY{b:Bool}{p:Prop}(h:ck b p):b=true/\p:=by
 cases b with
 |true=>exact⟨rfl,h⟩
 |false=>exact h.elim
structure Side(c k:Prop):Prop where
 left:c
 right:k
structure St where
 env:List (Nat×AV)
 objs:Xb
def luS:List (Nat×AV)->Nat->Option AV
 |[],_=>none
 |(k,v)::r,n=>bif Nat.beq n k then some v else luS r n
def luB:Xb->Nat->Option LObj
 |[],_=>none
 |(k,v)::r,n=>bif Nat.beq n k then v else luB r n
def St.s(A:St):Nat->Option AV:=luS A.env
def St.o(A:St):Xd:=luB A.objs
def St.app(A:St)(E:Eff):St:=⟨match E.ws with |some p=>p::A.env|none=>A.env,E.wo++A.objs⟩
theorem aG{α:Type}(n k:Nat)(x y:α):(bif Nat.beq n k then x else y)=if n=k then x else y:=by
 by_cases h:n=k
 ·subst h;simp[Nat.beq_refl]
 ·rw[if_neg h];have:Nat.beq n k=false:=by
   cases hb:Nat.beq n k with
   |true=>exact absurd (Nat.eq_of_beq_eq_true hb) h
   |false=>rfl
  rw[this];rfl
theorem St.app_s(A:St)(E:Eff):(A.app E).s=E.onS A.s:=by
 funext k;unfold St.s St.app Eff.onS;cases h:E.ws with
 |none=>rfl
 |some p=>
  obtain⟨d,v⟩:=p;simp only[luS,aG]
theorem St.app_o(A:St)(E:Eff):(A.app E).o=E.onO A.o:=by
 funext i;unfold St.o St.app Eff.onO;simp only;generalize E.wo=l;induction l with
 |nil=>rfl
 |cons p r ih=>
  obtain⟨j,x⟩:=p;simp only[List.cons_append,luB,luO,aG,ih]
def avOf:Value->Option AV
 |.int k n=>some (.int k n)
 |.bool b=>some (.bool b)
 |.string s=>some (.str s)
 |.slice none 0 0=>some .nils
 |.nilIface=>some .niface
 |.nilFunc=>some .nfunc
 |.pointer none=>some .nptr
 |.map none=>some .nmap
 |_=>none
theorem Ee{v:Value}{x:AV}(h:avOf v=some x)(Im:Nat->Prop)(H:Heap):ConI Im H x v:=by
 unfold avOf at h;split at h<;>simp only[Option.some.injEq,reduceCtorEq]at h<;>subst h<;>constructor
theorem zo{v:Value}{x:AV}(h:avOf v=some x)(i:Nat):¬Names i x:=by
 unfold avOf at h;split at h<;>simp only[Option.some.injEq,reduceCtorEq]at h<;>subst h<;>intro hn<;>cases hn
def opdV(s:Nat->Option AV):Operand->Option AV
 |.tmp t=>s t
 |.const v=>avOf v
 |.func f=>some (.fn f [])
 |.global _=>none
def opdS:Operand->List Nat
 |.tmp t=>[t]
 |_=>[]
theorem az{s s':Nat->Option AV}{x:Operand}(h:∀k∈opdS x,s' k=s k):opdV s' x=opdV s x:=by
 cases x<;>simp_all[opdV,opdS]
section
variable {X:Frm} {ρ:Loc} {Im:Nat->Prop} {s:Nat->Option AV} {o:Xd} {a:Act} {w:World}
theorem RelAt.opd(h:RelAt X ρ Im s o a w){x:Operand}{v:AV}(hv:opdV s x=some v):Con ρ Im w.heap v (a.eval x):=by
 cases x with
 |tmp t=>
  obtain⟨y,hy,hc⟩:=h.slots t v hv;have:a.eval (.tmp t)=y:=by simp[Act.eval,hy]
  rw[this];exact hc
 |const u=>exact .imm _ _ (Ee hv Im w.heap)
 |func f=>
  simp only[opdV,Option.some.injEq]at hv;subst hv;exact .imm _ _ (.fn f [] #[] rfl (by intro i c x hc;simp at hc))
 |global g=>simp[opdV]at hv
theorem RelAt.opdN(h:RelAt X ρ Im s o a w){x:Operand}{v:AV}(hv:opdV s x=some v){i:Nat}(hn:Names i v):o i≠none:=by
 cases x with
 |tmp t=>exact h.scl t v hv i hn
 |const u=>exact absurd hn (zo hv i)
 |func f=>
  simp only[opdV,Option.some.injEq]at hv;subst hv;cases hn with
  |fn _ _ c hm h=>simp at hm
 |global g=>simp[opdV]at hv
theorem Act.size_put(a:Act)(d:Option Tmp)(v:Value):(a.put d v).tmps.size=a.tmps.size:=by
 cases d<;>simp[Act.put]
theorem Act.defers_put(a:Act)(d:Option Tmp)(v:Value):(a.put d v).defers=a.defers:=by
 cases d<;>rfl
theorem RelAt.put(h:RelAt X ρ Im s o a w){d:Nat}(hd:d<X.nt){v:AV}{y:Value}(hc:Con ρ Im w.heap v y)(hn:∀i,Names i v->o i≠none) :
  RelAt X ρ Im (λk=>if k=d then some v else s k) o (a.put (some d) y) w :=
 {h.toMem with
  slots:=by
   intro k u hu;split at hu
   ·rename_i hk;subst hk;simp only[Option.some.injEq]at hu;subst hu;refine⟨y,?_,hc⟩;simp[Act.put,h.nt,hd]
   ·rename_i hk;obtain⟨x,hx,hcx⟩:=h.slots k u hu;exact⟨x,by simp[Act.put,Array.getElem?_setIfInBounds_ne (Ne.symm hk),hx],hcx⟩
  scl := by
   intro k u hu i hi;split at hu
   ·simp only[Option.some.injEq]at hu;subst hu;exact hn i hi
   ·exact h.scl k u hu i hi
  defers:=by rw[Act.defers_put];exact h.defers
  nt:=by rw[Act.size_put];exact h.nt }
theorem RelAt.put0(h:RelAt X ρ Im s o a w)(y:Value):RelAt X ρ Im s o (a.put none y) w:=h
end
section
variable {P:Program} {X:Frm} {ops:Array Oper}
def gS(ops:Array Oper)(o:Oper):List Nat:=match o.guard with
 |none=>[]
 |some (j,_)=>match ops[j]? with
  |some p=>p.dst.toList
  |none=>[]
def gOk(ops:Array Oper)(o:Oper)(s:Nat->Option AV):Prop:=match o.guard with
 |none=>True
 |some (j,want)=>match ops[j]? with
  |some p=>match p.dst with
   |some t=>s t=some (.bool want)
   |none=>False
  |none=>False
theorem AS{o:Oper}{s s':Nat->Option AV}(h:∀k∈gS ops o,s' k=s k)(hg:gOk ops o s):gOk ops o s':=by
 unfold gOk gS at *;cases hgu:o.guard with
 |none=>trivial
 |some p=>
  obtain⟨j,want⟩:=p;simp only[hgu]at h hg⊢;cases hj:ops[j]? with
  |none=>simp[hj]at hg
  |some q=>
   simp only[hj]at h hg⊢;cases hd:q.dst with
   |none=>simp[hd]at hg
   |some t=>
    simp only[hd]at h hg⊢;rw[h t η];exact hg
theorem RelAt.wanted{ρ:Loc}{Im:Nat->Prop}{s:Nat->Option AV}{o:Xd}{a:Act}{w:World}(h:RelAt X ρ Im s o a w){op:Oper}(hg:gOk ops op s) :
  Region.wanted op (yielded ops a.tmps)=true:=by
 unfold gOk at hg;unfold Region.wanted;cases hgu:op.guard with
 |none=>rfl
 |some p=>
  obtain⟨j,want⟩:=p;simp only[hgu]at hg⊢;cases hj:ops[j]? with
  |none=>simp[hj]at hg
  |some q=>
   simp only[hj]at hg;cases hd:q.dst with
   |none=>simp[hd]at hg
   |some t=>
    simp only[hd]at hg;obtain⟨x,hx,hc⟩:=h.slots t _ hg;have hxb:x=.bool want:=by
     cases hc with
     |imm _ _ hi=>cases hi;rfl
    simp[yielded,hj,hd,hx,hxb]
def effV(ops:Array Oper)(o:Oper)(rs ro:List Nat)(v:AV)(wo:Xb:=[]):Eff:=⟨gS ops o++rs,ro,match o.dst with |some d=>some (d,v)|none=>none,wo⟩
def G5(o:Oper):Bool:=match o.op with
 |.defer _=>false
 |_=>true
def ca(nt:Nat)(o:Oper):Prop:=G5 o=true/\match o.dst with |some d=>Nat.blt d nt=true|none=>True
theorem nA{nt:Nat}{o:Oper}(h:ca nt o):∀c,o.op≠.defer c:=λc e=>by
 have:=h.1;unfold G5 at this;rw[e]at this;cases this
theorem qd{ro:Option Nat}{n:Nat}{f:FuncId}{args:Array Value}{w:World}{R:Ending->World->Prop}(h:Calls P f args w R):CallsIn (rf ro) n P f args w R :=
 (callsIn_wide (n:=n)).2 h
theorem AT{ro:Option Nat}{n:Nat}{row:String}{args:Array Value}{w:World}{R:Value->World->Prop}(h:Rows P row args w R):RowsIn (rf ro) n P row args w R :=
 λc cs _=>let⟨v,w',r,s⟩:=h c cs;⟨v,w',r,stepsIn_wide.2 s⟩
theorem AU{op:Oper}{a:Act}{w:World}{next:Act->World->Prop}(hnd:∀c,op.op≠.defer c)(h:op.wp P a w next (λ_ _ _=>False)):opW P X op a w next:=by
 refine⟨λ_ _=>trivial,?_⟩;rw[Oper.semAt_eq _ _ _ hnd];unfold Oper.wp at h;generalize (execOp a.eval op).run P w=r at *;cases r with
 |ok n w'=>
  cases n<;>simp only[Oper.upon]at h<;>simp only[Oper.uponIn]<;>
   first|exact h|exact h.elim|exact⟨λe=>(by cases e),qd (h.mono λe w'' he=>by cases e<;>first|exact he|exact he.elim|(obtain⟨_,_,hf⟩:=he;exact hf.elim))⟩|exact⟨λe=>(by cases e),AT h⟩
 |halt x w'=>cases x<;>simp only[Oper.upon]at h<;>simp only[Oper.uponIn]<;>first|exact h|exact h.elim
theorem x4{nt:Nat}{o:Oper}(h:ca nt o){d:Nat}(hd:o.dst=some d):d<nt:=by
 have h:=h.2;rw[hd]at h;simpa[Nat.blt_eq]using h
theorem x5(o:Oper)(rs ro:List Nat)(v:AV)(wo:Xb)(s:Nat->Option AV) :
  (effV ops o rs ro v wo).onS s=match o.dst with |some d=>λk=>if k=d then some v else s k|none=>s:=by
 unfold effV Eff.onS;cases o.dst<;>rfl
theorem AW{op:Oper}{s:Nat->Option AV}{o:Xd}(hg:gOk ops op s)(hd:ca X.nt op){rs ro:List Nat}{v:AV}{wo:Xb}
  (h:∀s' o',(∀k∈rs,s' k=s k)->(∀i∈ro,o' i=o i)->∀ρ Im a w,RelAt X ρ Im s' o' a w->
   opW P X op a w (λa' w'=>∃y ρ' Im',a'=a.put op.dst y/\RelAt X ρ' Im' s' (luO wo o') a w'/\Con ρ' Im' w'.heap v y/\∀i,Names i v->luO wo o' i≠none)) :
  bt P X ops op s o (effV ops op rs ro v wo):=by
 intro s' o' hs ho a w hr;obtain⟨ρ,Im,hr⟩:=hr;have hg':gOk ops op s':=AS (λk hk=>hs k (by simp[effV,hk])) hg;rw[if_pos (hr.wanted hg')];refine Oper.wpIn_mono ?_ (h s' o' (λk hk=>hs k (by simp[effV,hk])) (λi hi=>ho i (by simpa[effV]using hi)) ρ Im a w hr);rintro a' w' ⟨y,ρ',Im',rfl,hr',hc,hn⟩;refine⟨ρ',Im',?_⟩;rw[x5];cases hdst:op.dst with
 |none=>exact hr'.put0 y
 |some d=>exact hr'.put (x4 hd hdst) hc hn
theorem cA{op:Oper}{s:Nat->Option AV}{o:Xd}(hg:gOk ops op s)(hd:ca X.nt op){rs ro:List Nat}{v:AV}{wo:Xb}
  (h:∀s' o',(∀k∈rs,s' k=s k)->(∀i∈ro,o' i=o i)->∀ρ Im a w,RelAt X ρ Im s' o' a w->
   op.wp P a w (λa' w'=>∃y ρ' Im',a'=a.put op.dst y/\RelAt X ρ' Im' s' (luO wo o') a w'/\Con ρ' Im' w'.heap v y/\∀i,Names i v->luO wo o' i≠none) (λ_ _ _=>False)) :
  bt P X ops op s o (effV ops op rs ro v wo) :=
 AW hg hd λs' o' hs ho ρ Im a w hr=>AU (nA hd) (h s' o' hs ho ρ Im a w hr)
theorem dq{op:Oper}{s:Nat->Option AV}{o:Xd}(hg:gOk ops op s)(hd:ca X.nt op){rs ro:List Nat}{v:AV}
  (h:∀s' o',(∀k∈rs,s' k=s k)->(∀i∈ro,o' i=o i)->∀ρ Im a w,RelAt X ρ Im s' o' a w->
   (∃y,(execOp a.eval op).run P w=.ok (.value y) w/\Con ρ Im w.heap v y)/\∀i,Names i v->o' i≠none) :
  bt P X ops op s o (effV ops op rs ro v):=by
 refine cA hg hd λs' o' hs ho ρ Im a w hr=>?_;obtain⟨⟨y,hy,hc⟩,hn⟩:=h s' o' hs ho ρ Im a w hr;unfold Oper.wp;rw[hy];exact⟨y,ρ,Im,rfl,hr,hc,hn⟩
theorem qf{op:Oper}{s:Nat->Option AV}{o:Xd}{j t:Nat}{want b:Bool}{p:Oper}(hg:op.guard=some (j,want))(hj:ops[j]? =some p)(ht:p.dst=some t)
  (hs:s t=some (.bool b)/\b≠want\/s t=some (.tup [])) (hd:ca X.nt op):bt P X ops op s o (effV ops op [] [] (.tup [])):=by
 intro s' o' hs' ho a w hr;obtain⟨ρ,Im,hr⟩:=hr;have hst:s' t=s t:=hs' t (by simp[effV,gS,hg,hj,ht]);have hw:Region.wanted op (yielded ops a.tmps)=false:=by
  rcases hs with⟨hs,hb⟩|hs
  ·obtain⟨x,hx,hc⟩:=hr.slots t _ (hst.trans hs);have hxb:x=.bool b:=by
    cases hc with
    |imm _ _ hi=>cases hi;rfl
   simp[Region.wanted,hg,yielded,hj,ht,hx,hxb,hb]
  ·obtain⟨x,hx,hc⟩:=hr.slots t _ (hst.trans hs);have hxb:∃xs,x=.tuple xs:=by
    cases hc with
    |imm _ _ hi=>cases hi;exact⟨_,rfl⟩
    |tup _ xs _ _=>exact⟨_,rfl⟩
   obtain⟨xs,rfl⟩:=hxb;simp[Region.wanted,hg,yielded,hj,ht,hx]
 rw[if_neg (by simp[hw])];refine⟨ρ,Im,?_⟩;rw[x5];cases hdst:op.dst with
 |none=>exact hr.put0 _
 |some d=>exact hr.put (x4 hd hdst) (.imm _ _ (.tup [] #[] rfl (by intro i c x hc;simp at hc))) (λi hi=>by cases hi with |tup _ c hm h=>simp at hm)
theorem jx{op:Oper}{x:Operand}(ho:op.op=.move x\/op.op=.assign x){s:Nat->Option AV}{o:Xd}(hg:gOk ops op s)(hd:ca X.nt op){v:AV}(hv:opdV s x=some v) :
  bt P X ops op s o (effV ops op (opdS x) [] v):=by
 refine dq hg hd λs' o' hs _ ρ Im a w hr=>?_;have hv':opdV s' x=some v:=(az hs).trans hv;refine⟨⟨a.eval x,?_,hr.opd hv'⟩,λi hi=>hr.opdN hv' hi⟩;rcases ho with ho|ho<;>simp[execOp,ho]
theorem Con.bool_inv{ρ:Loc}{Im:Nat->Prop}{H:Heap}{b:Bool}{x:Value}(h:Con ρ Im H (.bool b) x):x=.bool b:=by
 cases h with
 |imm _ _ hi=>cases hi;rfl
theorem Con.int_inv{ρ:Loc}{Im:Nat->Prop}{H:Heap}{k:IntKind}{n:Int}{x:Value}(h:Con ρ Im H (.int k n) x):x=.int k n:=by
 cases h with
 |imm _ _ hi=>cases hi;rfl
theorem Con.str_inv{ρ:Loc}{Im:Nat->Prop}{H:Heap}{s:ByteArray}{x:Value}(h:Con ρ Im H (.str s) x):x=.string s:=by
 cases h with
 |imm _ _ hi=>cases hi;rfl
theorem qg{op:Oper}{c x y:Operand}(ho:op.op=.pick c x y){s:Nat->Option AV}{o:Xd}(hg:gOk ops op s)(hd:ca X.nt op){b:Bool}(hc:opdV s c=some (.bool b)){v:AV}
  (hv:opdV s (if b then x else y)=some v):bt P X ops op s o (effV ops op (opdS c++opdS x++opdS y) [] v):=by
 refine dq hg hd λs' o' hs _ ρ Im a w hr=>?_;have hc':opdV s' c=some (.bool b):=(az λk hk=>hs k (by simp[hk])).trans hc;have hv':opdV s' (if b then x else y)=some v:=(az λk hk=>hs k (by cases b<;>simp_all)).trans hv;have e:=(hr.opd hc').bool_inv;refine⟨⟨a.eval (if b then x else y),?_,hr.opd hv'⟩,λi hi=>hr.opdN hv' hi⟩;simp only[execOp,ho,e,asBool];cases b<;>simp
end
inductive TK where
 |int (k:IntKind)
 |bool
 |str
 |slice (elem:Nat)
 |arr (n elem:Nat)
 |struct
 |map (key elem:Nat)
 |other
structure TI where
 tk:TK
 size:Nat
 bytes:Nat
 zero:List AV
 flds:List (Nat×Nat):=[]
def TK.of(d:TypeDesc):TK:=match d with
 |.int k=>.int k
 |.bool=>.bool
 |.string=>.str
 |.slice e=>.slice e
 |.array n e=>.arr n e
 |.struct _=>.struct
 |.map k e=>.map k e
 |_=>.other
def x6(P:Program)(d:TypeDesc):List (Nat×Nat):=match d with
 |.struct fs=>fs.toList.map λf=>(f.offset,P.cellsOf f.type)
 |_=>[]
abbrev Tab:=List (Nat×TI)
def luT:Tab->Nat->Option TI
 |[],_=>none
 |(k,v)::r,n=>bif Nat.beq n k then some v else luT r n
def TI.agg(t:TI):Bool:=match t.tk with
 |.struct|.arr _ _=>true
 |_=>false
def AV.conc:AV->Value
 |.int k n=>.int k n
 |.bool b=>.bool b
 |.str s=>.string s
 |.nils=>.slice none 0 0
 |.niface=>.nilIface
 |.nfunc=>.nilFunc
 |.nptr=>.pointer none
 |.nmap=>.map none
 |_=>undef
def AV.plain:AV->Bool
 |.int _ _|.bool _|.str _|.nils|.niface|.nfunc|.nptr|.nmap=>true
 |_=>false
theorem AV.plain_con{v:AV}(h:v.plain=true)(Im:Nat->Prop)(H:Heap):ConI Im H v v.conc:=by
 cases v<;>simp only[AV.plain,Bool.false_eq_true]at h<;>constructor
theorem AV.plain_names{v:AV}(h:v.plain=true)(i:Nat):¬Names i v:=by
 cases v<;>simp only[AV.plain,Bool.false_eq_true]at h<;>intro hn<;>cases hn
def tx:Value->Bool
 |.agg _=>true
 |_=>false
structure TiOk(P:Program)(t:Nat)(ti:TI):Prop where
 und:∃d,P.underlying t=some d/\TK.of d=ti.tk/\x6 P d=ti.flds
 info:∃i z,P.info? t=some i/\i.size=ti.size/\i.bytes=ti.bytes/\i.zero=some z/\z.cells.toList=ti.zero.map AV.conc/\tx z=ti.agg
 plain:ti.zero.all AV.plain=true
 zlen:ti.zero.length=ti.size
def fB(P:Program)(T:Tab):Prop:=∀t ti,luT T t=some ti->TiOk P t ti
def Gf(P:Program):Tab->Prop
 |[]=>True
 |(t,ti)::r=>((P.underlying t).map (λd=>(TK.of d,x6 P d))=some (ti.tk,ti.flds)/\(P.info? t).map (λi=>(i.size,i.bytes,i.zero.map λz=>(z.cells.toList,tx z)))=some (ti.size,ti.bytes,some (ti.zero.map AV.conc,ti.agg))/\ti.zero.all AV.plain=true/\ti.zero.length=ti.size)/\Gf P r
theorem tz{P:Program}{T:Tab}(h:Gf P T):fB P T:=by
 induction T with
 |nil=>intro t ti h;simp[luT]at h
 |cons p r ih=>
  obtain⟨k,v⟩:=p;intro t ti ht;simp only[luT,aG]at ht;split at ht
  ·rename_i hk;subst hk;simp only[Option.some.injEq]at ht;subst ht;obtain⟨h1,h2,h3,h4⟩:=h.1;refine⟨?_,?_,h3,h4⟩
   ·cases hu:P.underlying t with
    |none=>simp[hu]at h1
    |some d=>
     simp only[hu,Option.map_some,Option.some.injEq,Prod.mk.injEq]at h1;exact⟨d,rfl,h1.1,h1.2⟩
   cases hi:P.info? t with
   |none=>simp[hi]at h2
   |some i=>
    simp only[hi,Option.map_some,Option.some.injEq,Prod.mk.injEq]at h2;obtain⟨e1,e2,e3⟩:=h2;cases hz:i.zero with
    |none=>simp[hz]at e3
    |some z=>
     simp only[hz,Option.map_some,Option.some.injEq,Prod.mk.injEq]at e3;exact⟨i,z,rfl,e1,e2,hz,e3.1,e3.2⟩
  ·exact ih h.2 t ti ht
theorem TiOk.sizeOf{P:Program}{t:Nat}{ti:TI}(h:TiOk P t ti)(w:World):(sizeOf t).run P w=.ok ti.size w:=by
 obtain⟨i,z,hi,hs,_⟩:=h.info;simp[Go.sizeOf,typeInfo,hi,hs]
theorem TiOk.isAgg{P:Program}{t:Nat}{ti:TI}(h:TiOk P t ti)(w:World):(isAgg t).run P w=.ok ti.agg w:=by
 obtain⟨d,hd,hk,_⟩:=h.und;simp only[Go.isAgg,Sem.run_bind,run_underlying hd,Result.andThen_ok];unfold TI.agg;rw[<-hk];cases d<;>rfl
theorem TiOk.slice{P:Program}{t:Nat}{ti:TI}(h:TiOk P t ti){e:Nat}(hk:ti.tk=.slice e):P.underlying t=some (.slice e):=by
 obtain⟨d,hd,hk',_⟩:=h.und;rw[hk]at hk';rw[hd];cases d<;>simp[TK.of]at hk'⊢;exact hk'
theorem TiOk.bool{P:Program}{t:Nat}{ti:TI}(h:TiOk P t ti)(hk:ti.tk=.bool):P.underlying t=some .bool:=by
 obtain⟨d,hd,hk',_⟩:=h.und;rw[hk]at hk';rw[hd];cases d<;>simp[TK.of]at hk'⊢
theorem TiOk.str{P:Program}{t:Nat}{ti:TI}(h:TiOk P t ti)(hk:ti.tk=.str):P.underlying t=some .string:=by
 obtain⟨d,hd,hk',_⟩:=h.und;rw[hk]at hk';rw[hd];cases d<;>simp[TK.of]at hk'⊢
theorem TiOk.int{P:Program}{t:Nat}{ti:TI}(h:TiOk P t ti){k:IntKind}(hk:ti.tk=.int k):P.underlying t=some (.int k):=by
 obtain⟨d,hd,hk',_⟩:=h.und;rw[hk]at hk';rw[hd];cases d<;>simp[TK.of]at hk'⊢;exact hk'
theorem TiOk.arr{P:Program}{t:Nat}{ti:TI}(h:TiOk P t ti){n e:Nat}(hk:ti.tk=.arr n e):P.underlying t=some (.array n e):=by
 obtain⟨d,hd,hk',_⟩:=h.und;rw[hk]at hk';rw[hd];cases d<;>simp[TK.of]at hk'⊢;exact hk'
theorem TiOk.map{P:Program}{t:Nat}{ti:TI}(h:TiOk P t ti){k e:Nat}(hk:ti.tk=.map k e):P.underlying t=some (.map k e):=by
 obtain⟨d,hd,hk',_⟩:=h.und;rw[hk]at hk';rw[hd];cases d<;>simp[TK.of]at hk'⊢;exact hk'
theorem TiOk.struct{P:Program}{t:Nat}{ti:TI}(h:TiOk P t ti)(hk:ti.tk=.struct):∃fs,P.underlying t=some (.struct fs)/\fs.toList.map (λf=>(f.offset,P.cellsOf f.type))=ti.flds:=by
 obtain⟨d,hd,hk',hf⟩:=h.und;rw[hk]at hk';cases d<;>simp[TK.of]at hk';exact⟨_,hd,hf⟩
def ah(n:Int):Prop:=-9223372036854775808<=n/\n<=9223372036854775807
theorem k6{n:Int}(h:ah n):IntKind.i64.wrap n=n:=IntWalk.i64_in n ⟨h.1,by have:=h.2;omega⟩
def vBin(d:TK)(op:BinOp)(x y:AV)(k:AV->Prop):Prop :=
 match op,x,y with
 |.add,.int .i64 a,.int .i64 b=>Side (ah (a+b)) (k (.int .i64 (a+b)))
 |.sub,.int .i64 a,.int .i64 b=>Side (ah (a-b)) (k (.int .i64 (a-b)))
 |.mul,.int .i64 a,.int .i64 b=>Side (ah (a*b)) (k (.int .i64 (a*b)))
 |.quo,.int .i64 a,.int .i64 b=>Side (b≠0/\ah (a.tdiv b)) (k (.int .i64 (a.tdiv b)))
 |.rem,.int .i64 a,.int .i64 b=>Side (b≠0) (k (.int .i64 (a.tmod b)))
 |.rem,.int .u8 a,.int .u8 b=>Side (b≠0) (k (.int .u8 (a.tmod b)))
 |.shr,.int .u8 a,.int .u64 b=>Side (0<=b) (k (.int .u8 (a.fdiv (2 ^ min b.toNat 8))))
 |.lss,.int .i64 a,.int .i64 b=>k (.bool (decide (a<b)))
 |.leq,.int .i64 a,.int .i64 b=>k (.bool (decide (a<=b)))
 |.gtr,.int .i64 a,.int .i64 b=>k (.bool (decide (b<a)))
 |.geq,.int .i64 a,.int .i64 b=>k (.bool (decide (b<=a)))
 |.eql,.int .i64 a,.int .i64 b=>k (.bool (decide (a=b)))
 |.neq,.int .i64 a,.int .i64 b=>k (.bool (!decide (a=b)))
 |.lss,.int .u8 a,.int .u8 b=>k (.bool (decide (a<b)))
 |.leq,.int .u8 a,.int .u8 b=>k (.bool (decide (a<=b)))
 |.gtr,.int .u8 a,.int .u8 b=>k (.bool (decide (b<a)))
 |.geq,.int .u8 a,.int .u8 b=>k (.bool (decide (b<=a)))
 |.eql,.int .u8 a,.int .u8 b=>k (.bool (decide (a=b)))
 |.neq,.int .u8 a,.int .u8 b=>k (.bool (!decide (a=b)))
 |.eql,.str a,.str b=>k (.bool (a.toList==b.toList))
 |.neq,.str a,.str b=>k (.bool (!(a.toList==b.toList)))
 |.eql,.bool a,.bool b=>match d with |.bool=>k (.bool (a==b))|_=>False
 |.neq,.bool a,.bool b=>match d with |.bool=>k (.bool (!(a==b)))|_=>False
 |.eql,.nils,.nils=>match d with |.slice _=>k (.bool true)|_=>False
 |.eql,.isl n _ _,.nils=>match d with |.slice _=>Side (n≠0) (k (.bool false))|_=>False
 |.eql,.osl _ n,.nils=>match d with |.slice _=>Side (n≠0) (k (.bool false))|_=>False
 |.eql,.osub _ _ n _,.nils=>match d with |.slice _=>Side (n≠0) (k (.bool false))|_=>False
 |_,_,_=>False
section
variable {P:Program} {ρ:Loc} {Im:Nat->Prop} {H:Heap}
theorem G6(a b:Int):(a==b)=decide (a=b):=by
 by_cases h:a=b<;>simp[h]
theorem Con.nils_inv{x:Value}(h:Con ρ Im H .nils x):x=.slice none 0 0:=by
 cases h with
 |imm _ _ hi=>cases hi;rfl
theorem Con.isl_inv{n sz:Nat}{get:Nat->List AV}{x:Value}(h:Con ρ Im H (.isl n sz get) x) :
  (n=0/\∃p,x=.slice p 0 0)\/∃b off cap arr T fr,x=.slice (some ⟨b,off,none⟩) n cap/\Im b/\H[b]? =some (.cells arr T fr)/\(∀i,i<n->(get i).length=sz)/\n<=cap/\n<=slMax/\off+n*sz<=arr.size/\
   ∀(i j:Nat) (c:AV) (x:Value),i<n->(get i)[j]? =some c->arr[off+i*sz+j]? =some x->ConI Im H c x:=by
 cases h with
 |imm _ _ hi=>
  cases hi with
  |isl0=>exact .inl ⟨rfl,_,rfl⟩
  |isl _ _ _ b off cap arr T fr him hb hsz hn hbd hfit h=>exact .inr ⟨b,off,cap,arr,T,fr,rfl,him,hb,hsz,hn,hbd,hfit,h⟩
theorem Con.icap_inv{n sz:Nat}{get:Nat->List AV}{x:Value}(h:Con ρ Im H (.icap n sz get) x) :
  ∃b off arr T fr,x=.slice (some ⟨b,off,none⟩) n n/\Im b/\H[b]? =some (.cells arr T fr)/\(∀i,i<n->(get i).length=sz)/\0<n/\n<=slMax/\off+n*sz<=arr.size/\
   ∀(i j:Nat) (c:AV) (x:Value),i<n->(get i)[j]? =some c->arr[off+i*sz+j]? =some x->ConI Im H c x:=by
 cases h with
 |imm _ _ hi=>
  cases hi with
  |icap _ _ _ b off arr T fr him hb hsz hn hbd hfit h=>exact⟨b,off,arr,T,fr,rfl,him,hb,hsz,hn,hbd,hfit,h⟩
theorem zp{t:Nat}{ti:TI}(hti:TiOk P t ti){op:BinOp}{x y:AV}{k:AV->Prop}(h:vBin ti.tk op x y k) :
  ∃v,k v/\(∀i,¬Names i v)/\∀(ρ:Loc) (Im:Nat->Prop) (w:World) (u u':Value) (a b:Operand),Con ρ Im w.heap x u->Con ρ Im w.heap y u'->
   ∃z,(do eqGuard op t a b u u';binOp op t u u':Sem Value).run P w=.ok z w/\∀Im' H',ConI Im' H' v z:=by
 have hb:∀(b:Bool) (i:Nat),¬Names i (.bool b):=λb i hn=>by cases hn
 have hI:∀(k:IntKind) (b:Int) (i:Nat),¬Names i (.int k b):=λk b i hn=>by cases hn
 have q:∀(op:BinOp) (t:TypeId) (a b:Operand) (u u':Value),eqGuard op t a b u u'=pure ()->∀(w:World),(do eqGuard op t a b u u';binOp op t u u':Sem Value).run P w=(binOp op t u u').run P w:=by
  intro op t a b u u' he w;rw[he];simp
 unfold vBin at h;split at h<;>first
  |exact h.elim
  | (refine⟨_,h.2,hI _ _,fun ρ Im w u u' a b hu hu'=>?_⟩
     cases hu.int_inv;cases hu'.int_inv;refine⟨_,?_,λ_ _=>.int _ _⟩;rw[q _ _ _ _ _ _ (eqGuard_at_int ..)];first|(have:=k6 h.1;simp[binOp,Op.intArith,this];done)|(have:=k6 h.1.2;have h0:=h.1.1;simp[binOp,Op.intDiv,this,h0];done)|(have h0:=h.1;simp[binOp,Op.intDiv,h0];done)|(have h0:=Int.not_lt.2 h.1;simp[binOp,Op.shift,h0,IntKind.bits];done))
  | (refine⟨_,h,hb _,fun ρ Im w u u' a b hu hu'=>?_⟩
     cases hu.int_inv;cases hu'.int_inv;refine⟨_,?_,λ_ _=>.bool _⟩;rw[q _ _ _ _ _ _ (eqGuard_at_int ..)];simp[binOp,Op.intCmp,G6,bne];done)
  | (refine⟨_,h,hb _,fun ρ Im w u u' a b hu hu'=>?_⟩
     cases hu.str_inv;cases hu'.str_inv;refine⟨_,?_,λ_ _=>.bool _⟩;rw[q _ _ _ _ _ _ (eqGuard_at_string ..)];simp[binOp,Op.stringOp];done)
  |skip
 ·split at h
  ·rename_i hd;refine⟨_,h,hb _,λρ Im w u u' a b hu hu'=>?_⟩;cases hu.bool_inv;cases hu'.bool_inv;refine⟨_,?_,λ_ _=>.bool _⟩;rw[q _ _ _ _ _ _ (eqGuard_at_bool ..)];exact run_eql_bool w t _ _ (hti.bool hd)
  ·exact h.elim
 ·split at h
  ·rename_i hd;refine⟨_,h,hb _,λρ Im w u u' a b hu hu'=>?_⟩;cases hu.bool_inv;cases hu'.bool_inv;refine⟨_,?_,λ_ _=>.bool _⟩;rw[q _ _ _ _ _ _ (eqGuard_at_bool ..)];exact run_neq_bool w t _ _ (hti.bool hd)
  ·exact h.elim
 ·split at h
  ·rename_i e hd;refine⟨_,h,hb _,λρ Im w u u' a b hu hu'=>?_⟩;cases hu.nils_inv;cases hu'.nils_inv;refine⟨_,?_,λ_ _=>.bool _⟩;rw[q _ _ _ _ _ _ (eqGuard_at_slice ..)];exact Lib.run_eql_slice_nil w t e none 0 0 0 0 (hti.slice hd)
  ·exact h.elim
 ·split at h
  ·rename_i e hd;refine⟨_,h.2,hb _,λρ Im w u u' a b hu hu'=>?_⟩;cases hu'.nils_inv;rcases hu.isl_inv with⟨hn,_⟩|⟨b0,off,cap,arr,T,fr,rfl,_⟩
   ·exact absurd hn h.1
   ·refine⟨_,?_,λ_ _=>.bool _⟩;rw[q _ _ _ _ _ _ (eqGuard_at_slice ..)];exact Lib.run_eql_slice_nil w t e (some ⟨b0,off,none⟩) _ _ _ _ (hti.slice hd)
  ·exact h.elim
 ·split at h
  ·rename_i e hd;refine⟨_,h.2,hb _,λρ Im w u u' a b hu hu'=>?_⟩;cases hu'.nils_inv;cases hu with
   |imm _ _ hi=>cases hi
   |osl id n hbd hne hnc=>
    obtain⟨b0,hb0⟩:=Option.ne_none_iff_exists'.1 (hne h.1);refine⟨_,?_,λ_ _=>.bool _⟩;rw[q _ _ _ _ _ _ (eqGuard_at_slice ..),hb0];exact Lib.run_eql_slice_nil w t e (some ⟨b0,0,none⟩) _ _ _ _ (hti.slice hd)
  ·exact h.elim
 ·split at h
  ·rename_i e hd;refine⟨_,h.2,hb _,λρ Im w u u' a b hu hu'=>?_⟩;cases hu'.nils_inv;cases hu with
   |imm _ _ hi=>cases hi
   |osub id off n sz cap p hbd hp hnc=>
    obtain⟨b0,hb0,rfl⟩:=hp h.1;refine⟨_,?_,λ_ _=>.bool _⟩;rw[q _ _ _ _ _ _ (eqGuard_at_slice ..)];exact Lib.run_eql_slice_nil w t e (some ⟨b0,_,none⟩) _ _ _ _ (hti.slice hd)
  ·exact h.elim
end
end Go.Nc