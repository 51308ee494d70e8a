/- What keep reads is right: networks, flows, delays. -/
import Derived.Test.YtdkcmppdckkofaaGreatNcKB
import Derived.Test.YtdkcmppdckkofaaGreatNcKA
namespace Go.Nc
open Go.Proofs
theorem jw (i:Nat):dR (kW i):=ye (w6 i)
theorem jx (i:Nat):dR (cN i):=ye (w7 i)
theorem iK:∀ n,∀ x ∈ bE n,dR x
 | 0,_,h=>by cases h
 | n + 1,x,h=>by
  rcases List.mem_append.1 h with h | h
  ·exact iK n x h
  ·rw [List.mem_singleton.1 h];exact jw n
theorem lT {n:Nat} (h:n <= 4):(bE n).Nodup:=by
 rcases (ω:n = 0 \/ n = 1 \/ n = 2 \/ n = 3 \/ n = 4) with rfl|rfl|rfl|rfl|rfl<;>decide
def jy:Nat -> List ByteArray
 | 0=>[]
 | n + 1=>jy n ++ [cN n]
theorem lU {n:Nat} (h:n <= 5):(jy n).Nodup:=by
 rcases (ω:n = 0 \/ n = 1 \/ n = 2 \/ n = 3 \/ n = 4 \/ n = 5) with rfl|rfl|rfl|rfl|rfl|rfl<;>decide
theorem kX {P:Int -> Prop} {l:List Int} {f:Rd -> Int × Rd} (hl:∀ x ∈ l,P x) (hf:∀ s,P (f s).1):∀ (n:Nat) (s:Rd),∀ x ∈ (Rd.many l f n s).1,P x
 | 0,_,x,h=>hl x h
 | n + 1,s,x,h=>by
  rcases List.mem_append.1 h with h | h
  ·exact kX hl hf n s x h
  ·rw [List.mem_singleton.1 h];exact hf _
theorem yf:∀ (n:Nat),∀ x ∈ upto n,0 <= x/\x < n
 | 0,_,h=>by cases h
 | n + 1,x,h=>by
  rcases List.mem_append.1 h with h | h
  ·have:=yf n x h;omega
  ·rw [List.mem_singleton.1 h];omega
theorem rq (s:Rd) {cap classes:Int} (hc:1 <= cap/\cap <= 4000) (h:1 <= classes/\classes <= 6):LineOk (s.port2 cap classes).1/\(s.port2 cap classes).1.classes = classes:=by
 have h3:=mod_lt (x:=(s.n 4).2.raw.1) (n:=3) ω
 unfold Rd.port2
 dsimp only
 split
 ·exact ⟨⟨hc,h,.inl ⟨.inr rfl,rfl,rfl⟩⟩,rfl⟩
 ·split
  ·refine ⟨⟨hc,h,.inr (.inl ⟨rfl,?_,?_,rfl⟩)⟩,rfl⟩
   ·show classes = ((Rd.many [] _ _ _).1.length:Int)
    rw [Rd.many_len]
    show classes = ((0 + classes.toNat:Nat):Int)
    omega
   ·refine kX (P:=fun x=>1 <= x/\x <= 20) (l:=[]) (fun _ h=>by cases h) (fun s=>?_) _ _
    have:1 <= (s.range 1 3).1/\(s.range 1 3).1 <= 3:=bT rfl ω
    omega
  ·split
   ·refine ⟨⟨hc,h,.inr (.inr (.inl ⟨rfl,?_,?_,rfl⟩))⟩,rfl⟩
    ·show classes = ((Rd.many [] _ _ _).1.length:Int)
     rw [Rd.many_len]
     show classes = ((0 + classes.toNat:Nat):Int)
     omega
    ·refine kX (P:=fun x=>1 <= x/\x <= 6000) (l:=[]) (fun _ h=>by cases h) (fun s=>?_) _ _
     have:8 <= (s.range 8 20).1/\(s.range 8 20).1 <= 20:=bT rfl ω
     omega
   ·refine ⟨⟨hc,h,.inr (.inr (.inr ⟨rfl,rfl,?_,?_,?_⟩))⟩,rfl⟩
    ·show 1 <= (Rd.many _ _ _ _).1.length
     rw [Rd.many_len,ju];omega
    ·show (Rd.many _ _ _ _).1.length <= 40
     rw [Rd.many_len,ju]
     show _ + (mod (s.n 4).2.raw.1 3).toNat <= 40
     omega
    ·refine kX (P:=fun x=>-1 <= x/\x <= classes - 1) (fun x hx=>?_) (fun s=>?_) _ _
     ·have:=yf _ x hx
      omega
     ·exact bT rfl ω
theorem AN (s:Rd) {classes:Int} (h:1 <= classes/\classes <= 6):LineOk (s.port classes).1/\(s.port classes).1.classes = classes:=by
 have hr:4 <= (s.range 4 24).1/\(s.range 4 24).1 <= 24:=bT rfl ω
 have hc:1 <= (s.range 4 24).1/\(s.range 4 24).1 <= 4000:=ω
 unfold Rd.port
 split
 ·split
  ·exact ⟨⟨hc,h,.inl ⟨.inl rfl,rfl,rfl⟩⟩,rfl⟩
  ·exact rq _ hc h
 ·exact rq _ hc h
theorem ru {k:Int} (h:1 <= k/\k <= 6):∀ (n:Nat) (s:Rd),∀ l ∈ (Rd.lines k n s).1,LineOk l/\l.classes = k
 | 0,_,_,h=>by cases h
 | n + 1,s,l,hl=>by
  rcases List.mem_append.1 hl with h' | h'
  ·exact ru h n s l h'
  ·rw [List.mem_singleton.1 h'];exact AN _ h
def jz (n:Int) (l:List Int):Bool:=decide (1 <= l.length/\l.length <= 4) && l.all (fun x=>decide (0 <= x/\x < n)) && decide l.Nodup
theorem n6 {n:Int} {l:List Int} (h:jz n l = true):(1 <= l.length/\l.length <= 4)/\(∀ x ∈ l,0 <= x/\x < n)/\l.Nodup:=by
 simp only [jz,Bool.and_eq_true,decide_eq_true_eq,List.all_eq_true] at h
 exact ⟨h.1.1,h.1.2,h.2⟩
def uQ (n:Nat):Bool:=(List.range n).all fun w=>[1,(n:Int) - 1].all fun t=>(List.range (min 3 n)).all fun h=>jz n (fU (hops w t n (h + 1)).1)
theorem yg {n:Nat} (h0:1 <= n) (h1:n <= 4):uQ n = true:=by
 rcases (ω:n = 1 \/ n = 2 \/ n = 3 \/ n = 4) with rfl|rfl|rfl|rfl<;>kernel_rfl
theorem AO {n:Nat} (h0:1 <= n) (h1:n <= 4) {w t h:Int} (hw:0 <= w/\w < n) (ht:t ∈ [1,(n:Int) - 1]) (hh:1 <= h/\h <= min 3 (n:Int)):jz n (fU (hops w t n h.toNat).1) = true:=by
 have h2:=yg h0 h1
 simp only [uQ,List.all_eq_true] at h2
 have h3:=h2 w.toNat (List.mem_range.2 ω) t ht (h.toNat - 1) (List.mem_range.2 ω)
 rw [(ω:((w.toNat:Nat):Int) = w),(ω:h.toNat - 1 + 1 = h.toNat)] at h3
 exact h3
theorem uR {b:Int} (h:b <= 1073741824):∀ n:Nat,runs b (List.replicate n b) = some b
 | 0=>rfl
 | n + 1=>by
  rw [List.replicate_succ,runs,if_neg ω]
  exact uR h n
theorem uS {b:Int} {n i:Nat} (h:i < n):(List.replicate n b).getD i 0 = b:=by
 simp [h]
structure ConOk (c:Curve):Prop where
 valid:c.valid = true
 len:1 <= c.vals.length/\c.vals.length <= 400
 zero:c.vals.getD 0 0 = 0
 fin:c.vals.getD (c.vals.length - 1) 0 ≠ inf
theorem con_ok {a b c:Int} (ha:0 <= a/\a <= 1000) (hb:1 <= b/\b <= 100) (hc:0 <= c/\c <= 1000):ConOk ⟨0 :: List.replicate b.toNat a,b,c⟩:=by
 obtain ⟨p,rfl⟩:∃ p:Nat,b = p:=⟨b.toNat,ω⟩
 have e1:((0:Int) :: List.replicate p a).length = p + 1:=by simp
 obtain ⟨q,rfl⟩:∃ q,p = q + 1:=⟨p - 1,ω⟩
 have e2:((0:Int) :: List.replicate (q + 1) a).getD (q + 1) 0 = a:=uS (b:=a) (n:=q + 1) (i:=q) ω
 have e3:((0:Int) :: List.replicate (q + 1) a).getD 1 0 = a:=uS (b:=a) (n:=q + 1) (i:=0) ω
 refine ⟨?_,?_,rfl,?_⟩
 ·have er:runs 0 ((0:Int) :: List.replicate (q + 1) a) = some a:=by
   rw [runs,if_neg ω,List.replicate_succ,runs,if_neg ω]
   exact uR ω q
  unfold Curve.valid
  dsimp only
  rw [χ,e1,er,if_neg ω]
  dsimp only
  rw [if_neg (show ¬ a = inf by unfold inf;omega),(ω:(((q + 1 + 1:Nat):Int) - ((q + 1:Nat):Int)).toNat = 1),e3]
  exact decide_eq_true ω
 ·dsimp only;rw [χ,e1];omega
 ·dsimp only;rw [χ,e1,show q + 1 + 1 - 1 = q + 1 from rfl,e2];unfold inf;omega
theorem rv (s:Rd):ConOk s.contract.1:=by
 have h1:4 <= (s.range 4 16).1/\(s.range 4 16).1 <= 16:=bT rfl ω
 have h2:=jt (l:=[1,2,3,4,6,12]) η (s.range 4 16).2
 have h3:0 <= (((s.range 4 16).2.pick [1,2,3,4,6,12]).2.n 4).1/\(((s.range 4 16).2.pick [1,2,3,4,6,12]).2.n 4).1 < 4:=n_in rfl ω
 simp only [List.mem_cons,List.not_mem_nil,or_false] at h2
 exact con_ok ω ω ω
theorem AP (s:Rd) {ls:List Line} {n:Nat} (hn:ls.length = n) (h0:1 <= n) (h1:n <= 4) (name:ByteArray) {k:Int} (hk:1 <= k) (hcl:∀ i:Nat,i < n -> (ls.getD i default).classes = k):FlowOk ls (s.flow n name k).1/\(s.flow n name k).1.name = name:=by
 obtain ⟨c,s1,e1⟩:∃ c s1,s.n k = (c,s1):=⟨_,_,rfl⟩
 obtain ⟨q,s2,e2⟩:∃ k s2,s1.contract = (k,s2):=⟨_,_,rfl⟩
 obtain ⟨a,s3,e3⟩:∃ a s3,s2.range 1 3 = (a,s3):=⟨_,_,rfl⟩
 obtain ⟨b,s4,e4⟩:∃ b s4,s3.n 5 = (b,s4):=⟨_,_,rfl⟩
 obtain ⟨w,s5,e5⟩:∃ w s5,s4.n n = (w,s5):=⟨_,_,rfl⟩
 obtain ⟨t,s6,e6⟩:∃ t s6,s5.pick [1,(n:Int) - 1] = (t,s6):=⟨_,_,rfl⟩
 obtain ⟨d,s7,e7⟩:∃ d s7,s6.range 1 (min 3 (n:Int)) = (d,s7):=⟨_,_,rfl⟩
 have m1:=n_in e1 ω
 have m2:=rv s1
 have m3:=bT e3 ω
 have m4:=n_in e4 ω
 have m5:=n_in e5 ω
 have m6:=jt (l:=[1,(n:Int) - 1]) η s5
 have m7:=bT e7 ω
 rw [e2] at m2
 rw [e6] at m6
 have hr:=n6 (AO h0 h1 m5 m6 m7)
 have ef:s.flow n name k = (⟨name,fU (hops w t n d.toNat).1,c,a,a + b,q⟩,s7):=by simp only [Rd.flow,e1,e2,e3,e4,e5,e6,e7]
 rw [ef]
 refine ⟨⟨hr.1,fun x hx=>?_,hr.2.2,m1.1,fun x hx=>?_,⟨?_,?_,?_⟩,m2.valid,m2.len,m2.zero,m2.fin⟩,rfl⟩
 ·have:=hr.2.1 x hx;omega
 ·have:=hr.2.1 x hx
  rw [hcl x.toNat ω]
  exact m1.2
 ·exact m3.1
 ·dsimp only;omega
 ·dsimp only;omega
theorem rx {ls:List Line} {n:Nat} (hn:ls.length = n) (h0:1 <= n) (h1:n <= 4) {k:Int} (hk:1 <= k) (hcl:∀ i:Nat,i < n -> (ls.getD i default).classes = k):∀ (m:Nat) (s:Rd),
  (∀ f ∈ (Rd.flows n k m s).1,FlowOk ls f/\dR f.name)/\(Rd.flows n k m s).1.map Flow.name = jy m
 | 0,_=>⟨fun _ h=>(by cases h),rfl⟩
 | m + 1,s=>by
  have ih:=rx hn h0 h1 hk hcl m s
  have hf:=AP (Rd.flows n k m s).2 hn h0 h1 (cN m) hk hcl
  refine ⟨fun f hm=>?_,?_⟩
  ·rcases List.mem_append.1 hm with h' | h'
   ·exact ih.1 f h'
   ·rw [List.mem_singleton.1 h']
    refine ⟨hf.1,?_⟩
    rw [hf.2]
    exact jx m
  ·show List.map Flow.name (_ ++ [_]) = jy m ++ [cN m]
   rw [List.map_append,ih.2,List.map_singleton,hf.2]
theorem net_ok (s:Rd) (lines flows:Int) (h0:1 <= lines) (h1:lines <= 4) (h2:0 <= flows) (h3:flows <= 5):NetOk (s.net lines flows).1:=by
 obtain ⟨k,s1,e1⟩:∃ k s1,s.range 1 2 = (k,s1):=⟨_,_,rfl⟩
 obtain ⟨c,s2,e2⟩:∃ c s2,s1.range 1 lines = (c,s2):=⟨_,_,rfl⟩
 obtain ⟨l,s3,e3⟩:∃ l s3,Rd.lines k c.toNat s2 = (l,s3):=⟨_,_,rfl⟩
 obtain ⟨e,s4,e4⟩:∃ e s4,s3.range 0 flows = (e,s4):=⟨_,_,rfl⟩
 have m1:=bT e1 ω
 have m2:=bT e2 ω
 have m4:=bT e4 ω
 have er:s.net lines flows = (⟨bE c.toNat,l,(Rd.flows c.toNat k e.toNat s4).1⟩,(Rd.flows c.toNat k e.toNat s4).2):=by
  simp only [Rd.net,e1,e2,e3,e4]
 rw [er]
 have hl:=ru (k:=k) ω c.toNat s2
 have hn:=Rd.lines_len k s2 c.toNat
 have hf:=Rd.flows_len c.toNat k s4 e.toNat
 rw [e3] at hl hn
 dsimp only at hl hn
 have hcl:∀ i:Nat,i < c.toNat -> (l.getD i default).classes = k:=fun i hi=>(hl _ (by simp [<- hn,hi])).2
 have hfl:=rx hn.symm ω ω ω hcl e.toNat s4
 refine ⟨?_,?_,?_,?_,?_,?_,?_,?_,?_⟩
 ·dsimp only;omega
 ·dsimp only;omega
 ·show (bE _).length = l.length
  rw [<- fV];exact hn
 ·exact iK _
 ·exact lT ω
 ·exact fun x hx=>(hl x hx).1
 ·exact fun f hm=>(hfl.1 f hm).2
 ·show (List.map Flow.name _).Nodup
  rw [hfl.2];exact lU ω
 ·exact fun f hm=>(hfl.1 f hm).1
theorem yh {l:List Int} {j:Nat} (h:j < l.length):l.getD j 0 ∈ l:=by
 simp [h]
theorem yi (s:Rd):∀ n,∀ x ∈ (Rd.row n s).1,-1 <= x/\x <= 14
 | 0,_,h=>by cases h
 | n + 1,x,h=>by
  rcases List.mem_append.1 h with h | h
  ·exact yi s n x h
  ·rw [List.mem_singleton.1 h]
   have:=jt (l:=dg) (by simp [dg]) (Rd.row n s).2
   simp only [dg,List.mem_cons,List.not_mem_nil,or_false] at this
   simp only [dg]
   omega
theorem lV (ls:List Line) (s:Rd):∀ (n i:Nat),i < n -> (Rd.rows ls n s).1.getD i [] = (Rd.row (ls.getD i default).classes.toNat (Rd.rows ls i s).2).1
 | 0,_,h=>absurd h ω
 | n + 1,i,h=>by
  have hl:=Rd.rows_len ls s n
  rw [Rd.rows]
  dsimp only
  rcases ζ i n with h1 | h1
  ·rw [<- lV ls s n i h1]
   simp [List.getElem?_append,<- hl,h1]
  ·have e:i = n:=ω
   subst e
   simp [<- hl]
structure RowsOk (n:Net) (d:List (List Int)):Prop where
 len:d.length = n.lines.length
 row:∀ i:Nat,i < n.lines.length -> ((d.getD i []).length:Int) = (n.lines.getD i default).classes
 val:∀ i j:Nat,i < n.lines.length -> j < (d.getD i []).length -> -1 <= (d.getD i []).getD j 0/\(d.getD i []).getD j 0 <= 14
theorem RowsOk.shape {n:Net} {d:List (List Int)} (h:RowsOk n d):ShapeOk n d:=⟨h.len,h.row,fun i j hi hj=>by have:=h.val i j hi hj;omega⟩
theorem yj (s:Rd) (n:Net) (h:NetOk n):RowsOk n (s.delays n.lines).1:=by
 refine ⟨(Rd.rows_len n.lines s _).symm,fun i hi=>?_,fun i j hi hj=>?_⟩
 ·have hc:=(h.line (n.lines.getD i default) (by simp [hi])).cls
  rw [Rd.delays,lV n.lines s _ i hi,<- Rd.row_len]
  omega
 ·rw [Rd.delays,lV n.lines s _ i hi] at hj ⊢
  exact yi _ _ _ (yh hj)
end Go.Nc
