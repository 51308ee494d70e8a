/- Abstract values and what they mean in memory. -/
import Derived.Orders
import Derived.Laws.AppendOwn
namespace Go.Nc
inductive AV where
  | int (k:IntKind) (n:Int)
  | bool (b:Bool)
  | str (s:ByteArray)
  | junk
  | fn (f:FuncId) (caps:List AV)
  | isl (n sz:Nat) (get:Nat → List AV)
  | icap (n sz:Nat) (get:Nat → List AV)
  | eptr (n sz:Nat) (get:Nat → List AV) (i j:Nat)
  | ibox (cells:List AV) (off:Nat)
  | nils
  | emp
  | niface
  | nfunc
  | nptr
  | nmap
  | iface (t:TypeId) (v:AV)
  | agg (cs:List AV)
  | tup (vs:List AV)
  | lptr (id off:Nat)
  | osl (id n:Nat)
  | osub (id off n sz:Nat)
  | optr (id sz i j:Nat)
  | mref (id:Nat)
  | yld (id:Nat)
abbrev Heap:=Array Obj
def slMax:Nat:=140737488355328
inductive ConI (Im:Nat → Prop) (H:Heap):AV → Value → Prop
  | int (k n):ConI Im H (.int k n) (.int k n)
  | bool (b):ConI Im H (.bool b) (.bool b)
  | str (s):ConI Im H (.str s) (.string s)
  | junk (x):ConI Im H .junk x
  | nils:ConI Im H .nils (.slice none 0 0)
  | emp (p):ConI Im H .emp (.slice p 0 0)
  | niface:ConI Im H .niface .nilIface
  | nfunc:ConI Im H .nfunc .nilFunc
  | nptr:ConI Im H .nptr (.pointer none)
  | nmap:ConI Im H .nmap (.map none)
  | iface (t v x):ConI Im H v x → ConI Im H (.iface t v) (.iface t x)
  | fn (f caps) (xs:Array Value) (hl:xs.size = caps.length) (h:∀ (i:Nat) (c:AV) (x:Value),caps[i]? = some c → xs[i]? = some x → ConI Im H c x):ConI Im H (.fn f caps) (.func (.func f) #[] xs)
  | agg (cs) (xs:Array Value) (hl:xs.size = cs.length) (h:∀ (i:Nat) (c:AV) (x:Value),cs[i]? = some c → xs[i]? = some x → ConI Im H c x):ConI Im H (.agg cs) (.agg xs)
  | tup (cs) (xs:Array Value) (hl:xs.size = cs.length) (h:∀ (i:Nat) (c:AV) (x:Value),cs[i]? = some c → xs[i]? = some x → ConI Im H c x):ConI Im H (.tup cs) (.tuple xs)
  | isl0 (sz get p):ConI Im H (.isl 0 sz get) (.slice p 0 0)
  | isl (n sz get b off cap) (arr:Array Value) (T fr) (him:Im b) (hb:H[b]? = some (.cells arr T fr)) (hsz:∀ i,i < n → (get i).length = sz) (hn:n ≤ cap) (hbd:n ≤ slMax)
      (hfit:off + n * sz ≤ arr.size) (h:∀ (i j:Nat) (c:AV) (x:Value),i < n → (get i)[j]? = some c → arr[off + i * sz + j]? = some x → ConI Im H c x):ConI Im H (.isl n sz get) (.slice (some ⟨b,off,none⟩) n cap)
  | icap (n sz get b off) (arr:Array Value) (T fr) (him:Im b) (hb:H[b]? = some (.cells arr T fr)) (hsz:∀ i,i < n → (get i).length = sz) (hn:0 < n) (hbd:n ≤ slMax)
      (hfit:off + n * sz ≤ arr.size) (h:∀ (i j:Nat) (c:AV) (x:Value),i < n → (get i)[j]? = some c → arr[off + i * sz + j]? = some x → ConI Im H c x):ConI Im H (.icap n sz get) (.slice (some ⟨b,off,none⟩) n n)
  | eptr (n sz get i j b off) (arr:Array Value) (T fr) (him:Im b) (hb:H[b]? = some (.cells arr T fr)) (hsz:∀ i,i < n → (get i).length = sz)
      (hfit:off + n * sz ≤ arr.size) (h:∀ (i j:Nat) (c:AV) (x:Value),i < n → (get i)[j]? = some c → arr[off + i * sz + j]? = some x → ConI Im H c x) (hi:i < n):ConI Im H (.eptr n sz get i j) (.pointer (some ⟨b,off + i * sz + j,none⟩))
  | ibox (cells off b) (arr:Array Value) (T fr) (him:Im b) (hb:H[b]? = some (.cells arr T fr)) (hl:arr.size = cells.length)
      (h:∀ (i:Nat) (c:AV) (x:Value),cells[i]? = some c → arr[i]? = some x → ConI Im H c x):ConI Im H (.ibox cells off) (.pointer (some ⟨b,off,none⟩))
theorem ConI.mono {Im Im':Nat → Prop} {H H':Heap} (hI:∀ b,Im b → Im' b) (hH:∀ b,Im b → H'[b]? = H[b]?) {v:AV} {x:Value} (h:ConI Im H v x):ConI Im' H' v x:=by
  induction h with
  | int | bool | str | junk | nils | emp | niface | nfunc | nptr | nmap | isl0=>constructor
  | iface _ _ _ _ ih=>exact .iface _ _ _ ih
  | fn f caps xs hl _ ih=>exact .fn f caps xs hl ih
  | agg cs xs hl _ ih=>exact .agg cs xs hl ih
  | tup cs xs hl _ ih=>exact .tup cs xs hl ih
  | isl n sz get b off cap arr T fr him hb hsz hn hbd hfit _ ih=>exact .isl n sz get b off cap arr T fr (hI _ him) ((hH _ him).trans hb) hsz hn hbd hfit ih
  | icap n sz get b off arr T fr him hb hsz hn hbd hfit _ ih=>exact .icap n sz get b off arr T fr (hI _ him) ((hH _ him).trans hb) hsz hn hbd hfit ih
  | eptr n sz get i j b off arr T fr him hb hsz hfit _ hi ih=>exact .eptr n sz get i j b off arr T fr (hI _ him) ((hH _ him).trans hb) hsz hfit ih hi
  | ibox cells off b arr T fr him hb hl _ ih=>exact .ibox cells off b arr T fr (hI _ him) ((hH _ him).trans hb) hl ih
abbrev Loc:=Nat → Option Nat × Nat
inductive Con (ρ:Loc) (Im:Nat → Prop) (H:Heap):AV → Value → Prop
  | imm (v x) (h:ConI Im H v x):Con ρ Im H v x
  | lptr (id off b) (h:(ρ id).1 = some b):Con ρ Im H (.lptr id off) (.pointer (some ⟨b,off,none⟩))
  | osl (id n) (hbd:n ≤ slMax) (hne:n ≠ 0 → (ρ id).1 ≠ none) (hnc:n ≤ (ρ id).2):Con ρ Im H (.osl id n) (.slice ((ρ id).1.map fun b=>⟨b,0,none⟩) n (ρ id).2)
  | osub (id off n sz cap) (p:Option Addr) (hbd:n ≤ slMax) (hp:n ≠ 0 → ∃ b,(ρ id).1 = some b∧p = some ⟨b,off * sz,none⟩) (hnc:n ≤ cap):Con ρ Im H (.osub id off n sz) (.slice p n cap)
  | optr (id sz i j b) (h:(ρ id).1 = some b):Con ρ Im H (.optr id sz i j) (.pointer (some ⟨b,i * sz + j,none⟩))
  | mref (id b) (h:(ρ id).1 = some b):Con ρ Im H (.mref id) (.map (some b))
  | yld (id b) (h:(ρ id).1 = some b):Con ρ Im H (.yld id) (.func (.yield b) #[] #[])
  | fn (f caps) (xs:Array Value) (hl:xs.size = caps.length) (h:∀ (i:Nat) (c:AV) (x:Value),caps[i]? = some c → xs[i]? = some x → Con ρ Im H c x):Con ρ Im H (.fn f caps) (.func (.func f) #[] xs)
  | agg (cs) (xs:Array Value) (hl:xs.size = cs.length) (h:∀ (i:Nat) (c:AV) (x:Value),cs[i]? = some c → xs[i]? = some x → Con ρ Im H c x):Con ρ Im H (.agg cs) (.agg xs)
  | tup (cs) (xs:Array Value) (hl:xs.size = cs.length) (h:∀ (i:Nat) (c:AV) (x:Value),cs[i]? = some c → xs[i]? = some x → Con ρ Im H c x):Con ρ Im H (.tup cs) (.tuple xs)
theorem Con.mono {ρ:Loc} {Im Im':Nat → Prop} {H H':Heap} (hI:∀ b,Im b → Im' b) (hH:∀ b,Im b → H'[b]? = H[b]?) {v:AV} {x:Value} (h:Con ρ Im H v x):Con ρ Im' H' v x:=by
  induction h with
  | imm v x h=>exact .imm v x (h.mono hI hH)
  | lptr id off b h=>exact .lptr id off b h
  | osl id n hbd hne hnc=>exact .osl id n hbd hne hnc
  | osub id off n sz cap p h1 h2 h3=>exact .osub id off n sz cap p h1 h2 h3
  | optr id sz i j b h=>exact .optr id sz i j b h
  | mref id b h=>exact .mref id b h
  | yld id b h=>exact .yld id b h
  | fn f caps xs hl _ ih=>exact .fn f caps xs hl ih
  | agg cs xs hl _ ih=>exact .agg cs xs hl ih
  | tup cs xs hl _ ih=>exact .tup cs xs hl ih
def Cons (ρ:Loc) (Im:Nat → Prop) (H:Heap) (cs:List AV) (xs:Array Value):Prop :=
  xs.size = cs.length∧∀ (i:Nat) (c:AV) (x:Value),cs[i]? = some c → xs[i]? = some x → Con ρ Im H c x
inductive Names (id:Nat):AV → Prop
  | lptr (off):Names id (.lptr id off)
  | osl (n):Names id (.osl id n)
  | osub (off n sz):Names id (.osub id off n sz)
  | optr (sz i j):Names id (.optr id sz i j)
  | mref:Names id (.mref id)
  | yld:Names id (.yld id)
  | fn (f caps c) (hm:c ∈ caps) (h:Names id c):Names id (.fn f caps)
  | agg (cs c) (hm:c ∈ cs) (h:Names id c):Names id (.agg cs)
  | tup (cs c) (hm:c ∈ cs) (h:Names id c):Names id (.tup cs)
theorem Con.reloc {ρ ρ':Loc} {Im:Nat → Prop} {H:Heap} {v:AV} {x:Value} (h:Con ρ Im H v x) (hρ:∀ id,Names id v → ρ' id = ρ id):Con ρ' Im H v x:=by
  induction h with
  | imm v x h=>exact .imm v x h
  | lptr id off b h=>exact .lptr id off b (by rw [hρ id (.lptr off)];exact h)
  | osl id n hbd hne hnc=>rw [← hρ id (.osl n)] at hne hnc ⊢;exact .osl id n hbd hne hnc
  | osub id off n sz cap p h1 h2 h3=>exact .osub id off n sz cap p h1 (by rw [hρ id (.osub off n sz)];exact h2) h3
  | optr id sz i j b h=>exact .optr id sz i j b (by rw [hρ id (.optr sz i j)];exact h)
  | mref id b h=>exact .mref id b (by rw [hρ id .mref];exact h)
  | yld id b h=>exact .yld id b (by rw [hρ id .yld];exact h)
  | fn f caps xs hl _ ih=>exact .fn f caps xs hl fun i c x hc hx=>ih i c x hc hx fun id hn=>hρ id (.fn f caps c (List.mem_of_getElem? hc) hn)
  | agg cs xs hl _ ih=>exact .agg cs xs hl fun i c x hc hx=>ih i c x hc hx fun id hn=>hρ id (.agg cs c (List.mem_of_getElem? hc) hn)
  | tup cs xs hl _ ih=>exact .tup cs xs hl fun i c x hc hx=>ih i c x hc hx fun id hn=>hρ id (.tup cs c (List.mem_of_getElem? hc) hn)
end Go.Nc
