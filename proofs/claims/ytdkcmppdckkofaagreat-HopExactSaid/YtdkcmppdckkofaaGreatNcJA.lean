/- Merged: J1, CN4, J2, J3. -/
import Derived.Test.YtdkcmppdckkofaaGreatNcL
import Derived.Test.YtdkcmppdckkofaaGreatNcHB
import Derived.Test.YtdkcmppdckkofaaGreatNcHA
namespace Go.Nc
open Go.Proofs.Tryz
def scal:AV -> Bool
 | .int ..=>true
 | .bool _=>true
 | .str _=>true
 | _=>false
def wL:AV -> Bool
 | .tup vs=>vs.all scal
 | v=>scal v
theorem gZ {ρ ρ':Loc} {Im Im':Nat -> Prop} {H H':Heap} {v:AV} {x:Value} (h:scal v = true) (hc:Con ρ Im H v x):Con ρ' Im' H' v x:=by
 cases v with
 | int k n=>
  cases hc with
  | imm _ _ h=>cases h;exact .imm _ _ (.int ..)
 | bool b=>
  cases hc with
  | imm _ _ h=>cases h;exact .imm _ _ (.bool ..)
 | str s=>
  cases hc with
  | imm _ _ h=>cases h;exact .imm _ _ (.str ..)
 | _=>cases h
theorem vn {ρ ρ':Loc} {Im Im':Nat -> Prop} {H H':Heap} {v:AV} {x:Value} (h:wL v = true) (hc:Con ρ Im H v x):Con ρ' Im' H' v x:=by
 cases v with
 | tup vs=>
  have ha:∀ c ∈ vs,scal c = true:=List.all_eq_true.1 h
  cases hc with
  | imm _ _ h=>
   cases h with
   | tup _ xs hl h=>exact .tup _ xs hl fun i c x hc hx=>gZ (ha c (List.mem_of_getElem? hc)) (.imm _ _ (h i c x hc hx):Con ρ Im H c x)
  | tup _ xs hl h=>exact .tup _ xs hl fun i c x hc hx=>gZ (ha c (List.mem_of_getElem? hc)) (h i c x hc hx)
 | int k n=>exact gZ (v:=.int k n) rfl hc
 | bool b=>exact gZ (v:=.bool b) rfl hc
 | str s=>exact gZ (v:=.str s) rfl hc
 | _=>cases h
theorem tF {v:AV} (h:scal v = true) (i:Nat):¬ Names i v:=by
 intro hn
 cases hn<;>cases h
theorem ot {v:AV} (h:wL v = true) (i:Nat):¬ Names i v:=by
 intro hn
 cases hn with
 | tup _ c hm hn=>exact tF (List.all_eq_true.1 h c hm) i hn
 | _=>cases h
theorem CallSpec.lend {P:Program} {f:FuncId} {us vs:List AV} {r:AV} (id:Nat) {n m sz T:Nat} {get get':Nat -> List AV} (h:CallSpec P f (us ++ .isl n sz get :: vs) [] r []) (hr:wL r = true) (hnm:n <= m) (hg:∀ i,i < n -> get' i = get i) (him:∀ i,i < m -> nmL [] (get' i) = true) :
  CallSpec P f (us ++ .osl id n :: vs) [(id,.arr m sz get' T)] r [(id,.arr m sz get' T)]:=by
 have hnn:∀ i,¬ NamesO i (.arr m sz get' T):=by
  intro i hn
  cases hn with
  | arr _ _ _ _ j c hj hm hn=>exact absurd (cj hn (cM (him j hj) c hm)) η
 have hone:∀ {j:Nat} {u:LObj},luL [(id,LObj.arr m sz get' T)] j = some u -> j = id/\u = .arr m sz get' T:=by
  intro j u hj
  rw [cB] at hj
  split at hj
  ·rename_i he;cases hj;exact ⟨he,rfl⟩
  ·cases hj
 refine ⟨h.enter,fun j ob hj i hi=>?_,fun j ob hj=>?_,fun w ρ Im xs hmem hx=>?_⟩
 ·obtain ⟨_,rfl⟩:=hone hj
  exact absurd hi (hnn i)
 ·obtain ⟨_,rfl⟩:=hone hj
  rfl
 ·have hob:luL [(id,LObj.arr m sz get' T)] id = some (.arr m sz get' T):=by rw [cB,if_pos rfl]
  have hoo:=hmem.objs id _ hob
  have hm1:Mem (bU w (fun b=>Im b \/ (ρ id).1 = some b) [] ρ 0) ρ (fun b=>Im b \/ (ρ id).1 = some b) (luL []) w :=
   {objs:=fun j u hj=>by cases hj
    own:=fun j u b hj=>by cases hj
    inj:=fun j j' u u' b h1=>by cases h1
    ocl:=h.icl
    imlt:=fun b hb=>hb.elim (hmem.imlt b) fun he=>(hmem.own id _ b hob rfl he).2.1
    im0:=fun b hb=>hb,imf:=fun b hb=>.inl hb
    os:=rfl,tape:=rfl,output:=rfl,size:=ξ _,frame:=fun _ _ _=>rfl,pin:=fun j hj=>(by cases hj),lrc:=fun l r h=>⟨r.state,r.pending,h⟩,rnd:=fun l h=>by cases h }
  have hx1:Cons ρ (fun b=>Im b \/ (ρ id).1 = some b) w.heap (us ++ .isl n sz get :: vs) xs:=by
   refine ⟨by rw [hx.1];simp,fun i c x hc hxi=>?_⟩
   by_cases hu:i < us.length
   ·rw [List.getElem?_append_left hu] at hc
    exact (hx.2 i c x (by rw [List.getElem?_append_left hu];exact hc) hxi).mono (fun b hb=>.inl hb) fun _ _=>rfl
   ·by_cases he:i = us.length
    ·subst he
     simp only [List.getElem?_append_right (ξ _),Nat.sub_self,List.getElem?_cons_zero,Option.some.injEq] at hc
     subst hc
     have h1:=hx.2 us.length (.osl id n) x η hxi
     have h2:=d7 hoo him (.osl id n) x (by simp only [frzC,Nat.beq_refl];exact hnm) h1
     simp only [frzV,Nat.beq_refl,cond_true] at h2
     exact (Ξ rfl hg).con _ _ _ _ h2
    ·obtain ⟨k,rfl⟩:∃ k,i = us.length + (k + 1):=⟨i - us.length - 1,ω⟩
     have hc':vs[k]? = some c:=by
      rw [List.getElem?_append_right ω] at hc
      simpa using hc
     refine (hx.2 _ c x ?_ hxi).mono (fun b hb=>.inl hb) fun _ _=>rfl
     rw [List.getElem?_append_right ω]
     simpa using hc'
  refine (h.calls w ρ _ xs hm1 hx1).mono fun e w'=>?_
  rintro ⟨y,ρ',Im',rfl,hc,hn,hm⟩
  have hfr:∀ b,b < w.heap.size -> w'.heap[b]? = w.heap[b]?:=fun b hb=>hm.frame b hb fun i hi=>by cases hi
  have hsz:w.heap.size <= w'.heap.size:=hm.size
  refine ⟨y,ρ,Im,rfl,vn hr hc,fun i hi=>absurd hi (ot hr i),?_⟩
  exact
   {objs:=fun j u hj=>(hmem.objs j u hj).move (fun b hb=>hb) (fun b hb=>hfr b (hmem.imlt b hb)) (fun b hb=>by
     obtain ⟨_,rfl⟩:=hone hj
     exact hfr b (hmem.own j _ b hj rfl hb).2.1) rfl fun _ _=>rfl
    own:=fun j u b hj hl hb=>by
     obtain ⟨h1,h2,h3⟩:=hmem.own j u b hj hl hb
     exact ⟨h1,Nat.lt_of_lt_of_le h2 hsz,h3⟩
    inj:=hmem.inj
    ocl:=hmem.ocl
    imlt:=fun b hb=>Nat.lt_of_lt_of_le (hmem.imlt b hb) hsz,im0:=fun b hb=>hb
    imf:=fun b hb=>.inl hb
    os:=hm.os,tape:=hm.tape,output:=hm.output,size:=hm.size
    frame:=fun b hb _=>hfr b hb
    pin:=fun j hj=>⟨rfl,bR.2 hj⟩,lrc:=hm.lrc,rnd:=hm.rnd }
def slS (cap lo:Int) (tb:Nat -> Bool) (c:Nat):Nat -> Int × Int
 | 0=>(0,0)
 | k + 1=>if tb (c + k) then ((slS cap lo tb c k).1,(slS cap lo tb c k).2 + cap) else ((slS cap lo tb c k).1 + max 0 ((slS cap lo tb c k).2 - lo),0)
def slV (cap lo:Int) (tb:Nat -> Bool) (c k:Nat):Int:=(slS cap lo tb c k).1 + max 0 ((slS cap lo tb c k).2 - lo)
theorem vo {cap lo:Int} (hc:0 <= cap) (tb:Nat -> Bool) (c:Nat):∀ k,0 <= (slS cap lo tb c k).1/\0 <= (slS cap lo tb c k).2
 | 0=>⟨Int.le_refl 0,Int.le_refl 0⟩
 | k + 1=>by
  have:=vo (lo:=lo) hc tb c k
  unfold slS
  split<;>(dsimp only;omega)
theorem yR {cap lo:Int} (hc:0 <= cap) (hl:0 <= lo) (tb:Nat -> Bool) (c:Nat):∀ k:Nat,(slS cap lo tb c k).1 + (slS cap lo tb c k).2 <= cap * k
 | 0=>by show (0:Int) + 0 <= _;omega
 | k + 1=>by
  have h:=yR hc hl tb c k
  have h2:=vo (lo:=lo) hc tb c k
  have e:cap * ((k + 1:Nat):Int) = cap * k + cap:=by rw [Int.natCast_succ,Int.mul_add,Int.mul_one]
  unfold slS
  split<;>(dsimp only;omega)
theorem vp {cap lo:Int} (hc:0 <= cap) (hl:0 <= lo) (tb:Nat -> Bool) (c k:Nat):0 <= slV cap lo tb c k/\slV cap lo tb c k <= cap * k:=by
 have h:=yR hc hl tb c k
 have h2:=vo (lo:=lo) hc tb c k
 unfold slV
 omega
theorem Bm {cap lo:Int} (hc:0 <= cap) (hl:0 <= lo) (tb:Nat -> Bool) (c k:Nat):slV cap lo tb c k <= slV cap lo tb c (k + 1):=by
 have h2:=vo (lo:=lo) hc tb c k
 unfold slV
 rw [show slS cap lo tb c (k + 1) = if tb (c + k) then ((slS cap lo tb c k).1,(slS cap lo tb c k).2 + cap) else ((slS cap lo tb c k).1 + max 0 ((slS cap lo tb c k).2 - lo),0) from rfl]
 split<;>(dsimp only;omega)
theorem Bn {cap lo:Int} (hc:0 <= cap) (hl:0 <= lo) (tb:Nat -> Bool) (c:Nat) {s t:Nat} (h:s <= t):slV cap lo tb c s <= slV cap lo tb c t:=by
 obtain ⟨d,rfl⟩:∃ d,t = s + d:=⟨t - s,ω⟩
 clear h
 induction d with
 | zero=>exact Int.le_refl _
 | succ d ih=>exact Int.le_trans ih (Bm hc hl tb c (s + d))
theorem rP {cap lo:Int} {tb:Nat -> Bool} {c j:Nat} (h:tb (c + j) = false):∀ i:Nat,slS cap lo tb c (j + 1 + i) = (slV cap lo tb c j + (slS cap lo tb (c + j + 1) i).1,(slS cap lo tb (c + j + 1) i).2)
 | 0=>by
  show slS cap lo tb c (j + 1) = (slV cap lo tb c j + 0,0)
  unfold slS slV
  rw [h,Int.add_zero]
  rfl
 | i + 1=>by
  have ih:=rP (cap:=cap) (lo:=lo) h i
  show slS cap lo tb c (j + 1 + i + 1) = _
  rw [show slS cap lo tb c (j + 1 + i + 1) = if tb (c + (j + 1 + i)) then ((slS cap lo tb c (j + 1 + i)).1,(slS cap lo tb c (j + 1 + i)).2 + cap) else ((slS cap lo tb c (j + 1 + i)).1 + max 0 ((slS cap lo tb c (j + 1 + i)).2 - lo),0) from rfl]
  rw [show slS cap lo tb (c + j + 1) (i + 1) = if tb (c + j + 1 + i) then ((slS cap lo tb (c + j + 1) i).1,(slS cap lo tb (c + j + 1) i).2 + cap) else ((slS cap lo tb (c + j + 1) i).1 + max 0 ((slS cap lo tb (c + j + 1) i).2 - lo),0) from rfl]
  rw [ih,(ω:c + (j + 1 + i) = c + j + 1 + i)]
  split
  ·rfl
  ·dsimp only
   rw [Int.add_assoc]
theorem mB {cap lo:Int} {tb:Nat -> Bool} {c j:Nat} (h:tb (c + j) = false) (i:Nat):slV cap lo tb c (j + 1 + i) = slV cap lo tb c j + slV cap lo tb (c + j + 1) i:=by
 unfold slV
 rw [rP h i]
 dsimp only
 unfold slV
 omega
theorem yS {cap lo:Int} {tb:Nat -> Bool} {n:Nat} (hp:∀ i,tb (i + n) = tb i) (c:Nat):∀ k,slS cap lo tb (c + n) k = slS cap lo tb c k
 | 0=>rfl
 | k + 1=>by
  have ih:=yS (cap:=cap) (lo:=lo) hp c k
  unfold slS
  rw [ih,(ω:c + n + k = c + k + n),hp]
theorem yT {cap lo:Int} {tb:Nat -> Bool} {n:Nat} (hp:∀ i,tb (i + n) = tb i) (c k:Nat):slV cap lo tb (c + n) k = slV cap lo tb c k:=by
 unfold slV;rw [yS hp]
theorem CD {cap lo:Int} {tb:Nat -> Bool} {n b:Nat} (hp:∀ i,tb (i + n) = tb i) (hb:b < n) (h:tb b = false) {c:Nat} (hc:c < n) {k:Nat} (hk:n <= k):slV cap lo tb c (k + n) = slV cap lo tb c k + slV cap lo tb (b + 1) (n - 1):=by
 have key:∀ b':Nat,tb b' = false -> c <= b' -> b' < c + n -> slV cap lo tb (b' + 1) (n - 1) = slV cap lo tb (b + 1) (n - 1) -> slV cap lo tb c (k + n) = slV cap lo tb c k + slV cap lo tb (b + 1) (n - 1):=fun b' h1 h2 h3 h4=>by
  have hj:tb (c + (b' - c)) = false:=by rw [(ω:c + (b' - c) = b')];exact h1
  have a1:=mB (cap:=cap) (lo:=lo) hj (k - (b' - c + 1))
  have a2:=mB (cap:=cap) (lo:=lo) hj (k + n - (b' - c + 1))
  rw [(ω:b' - c + 1 + (k - (b' - c + 1)) = k),(ω:c + (b' - c) + 1 = b' + 1)] at a1
  rw [(ω:b' - c + 1 + (k + n - (b' - c + 1)) = k + n),(ω:c + (b' - c) + 1 = b' + 1)] at a2
  have hj2:tb (b' + 1 + (n - 1)) = false:=by rw [(ω:b' + 1 + (n - 1) = b' + n),hp];exact h1
  have a3:=mB (cap:=cap) (lo:=lo) hj2 (k - (b' - c + 1))
  rw [(ω:n - 1 + 1 + (k - (b' - c + 1)) = k + n - (b' - c + 1)),(ω:b' + 1 + (n - 1) + 1 = b' + 1 + n),yT hp] at a3
  omega
 rcases ζ b c with g | g
 ·refine key (b + n) (by rw [hp];exact h) ω ω ?_
  rw [(ω:b + n + 1 = b + 1 + n),yT hp]
 ·exact key b h g ω rfl
def minF (f:Nat -> Int):Nat -> Int
 | 0=>f 0
 | m + 1=>min (minF f m) (f (m + 1))
theorem yU (f:Nat -> Int):∀ {m i:Nat},i <= m -> minF f m <= f i
 | 0,i,h=>by rw [(ω:i = 0)];exact Int.le_refl _
 | m + 1,i,h=>by
  show min (minF f m) (f (m + 1)) <= f i
  rcases ζ i (m + 1) with g | g
  ·have:=yU f (m:=m) (i:=i) ω
   omega
  ·rw [(ω:i = m + 1)];omega
theorem pK (f:Nat -> Int):∀ m:Nat,∃ i,i <= m/\minF f m = f i
 | 0=>⟨0,ξ 0,rfl⟩
 | m + 1=>by
  obtain ⟨i,h1,h2⟩:=pK f m
  show ∃ j,j <= m + 1/\min (minF f m) (f (m + 1)) = f j
  rcases Int.lt_or_le (f (m + 1)) (minF f m) with g | g
  ·exact ⟨m + 1,ξ _,ω⟩
  ·exact ⟨i,ω,ω⟩
theorem kw {f g:Nat -> Int} {m:Nat} {W:Int} (h:∀ i,i <= m -> f i + W <= g i):minF f m + W <= minF g m:=by
 obtain ⟨i,h1,h2⟩:=pK g m
 rw [h2]
 have:=yU f h1
 have:=h i h1
 omega
theorem Bo {f g:Nat -> Int} {m:Nat} {W:Int} (h:∀ i,i <= m -> g i = f i + W):minF g m = minF f m + W:=by
 have h1:minF f m + W <= minF g m:=kw fun i hi=>by rw [h i hi];exact Int.le_refl _
 have h2:minF g m + (-W) <= minF f m:=kw fun i hi=>by rw [h i hi];omega
 omega
def minJ (f:Nat -> Int):Nat -> Int
 | 0=>inf
 | m + 1=>minF f m
theorem mC {f:Nat -> Int} (h:f 0 <= inf):∀ j:Nat,min (minJ f j) (f j) = minJ f (j + 1)
 | 0=>by show min inf (f 0) = f 0;omega
 | m + 1=>rfl
def tbF (l:List Int) (k:Int) (i:Nat):Bool:=decide (l.getD (i % l.length) 0 = k)
theorem CE (l:List Int) (k:Int) (i:Nat):tbF l k (i + l.length) = tbF l k i:=by
 unfold tbF;rw [Nat.add_mod_right]
def slG (cap lo:Int) (l:List Int) (k:Int) (t:Nat):Int:=minF (fun c=>slV cap lo (tbF l k) c t) (l.length - 1)
theorem vq {cap lo:Int} (hc:0 <= cap) (hl:0 <= lo) (l:List Int) (k:Int) {s t:Nat} (h:s <= t):slG cap lo l k s <= slG cap lo l k t:=by
 have:=kw (f:=fun c=>slV cap lo (tbF l k) c s) (g:=fun c=>slV cap lo (tbF l k) c t) (m:=l.length - 1) (W:=0) fun i _=>by have:=Bn hc hl (tbF l k) i h;omega
 unfold slG
 omega
theorem slG_bd {cap lo:Int} (hc:0 <= cap) (hl:0 <= lo) (l:List Int) (k:Int) (t:Nat):0 <= slG cap lo l k t/\slG cap lo l k t <= cap * t:=by
 obtain ⟨i,_,e⟩:=pK (fun c=>slV cap lo (tbF l k) c t) (l.length - 1)
 unfold slG
 rw [e]
 exact vp hc hl _ _ _
theorem yV {cap lo:Int} {l:List Int} {k:Int} {b:Nat} (hb:b < l.length) (h:l.getD b 0 ≠ k) {t:Nat} (ht:l.length <= t):slG cap lo l k (t + l.length) = slG cap lo l k t + slV cap lo (tbF l k) (b + 1) (l.length - 1):=by
 have hb2:tbF l k b = false:=by unfold tbF;rw [Nat.mod_eq_of_lt hb];exact decide_eq_false h
 unfold slG
 exact Bo fun i hi=>CD (CE l k) hb hb2 ω ht
def AllS (l:List Int) (k:Int):Prop:=∀ i,i < l.length -> l.getD i 0 = k
def tG (l:List Int) (k:Int):Prop:=∃ i,i < l.length/\l.getD i 0 = k
def slF (cap lo:Nat):Nat -> Int:=fun t=>max 0 ((cap:Int) * t - lo)
open Classical in
noncomputable def cK (cap k:Nat) (l:List Int) (sz:List Sz):Except Int Curve :=
 if ¬ tG l k \/ (sz.getD k (0,0)).2 < 1 then .error 5
 else if AllS l k then canC (slF cap ((sz.getD k (0,0)).2 - 1).toNat) else canC (slG cap ((sz.getD k (0,0)).2 - 1) l k)
open Go.Proofs
structure SlotsOk (l:List Int) (cl:Int):Prop where
 len:1 <= l.length/\l.length <= 40
 val:∀ x ∈ l,-1 <= x/\x < cl
theorem tH (l:List Int) (cl:Int) (h:SlotsOk l cl):q0c 313 [ints l,.int .i64 cl] (.bool true):=by
 obtain ⟨hl,h⟩:=h
 refine opG func313 ntmps313 results313 fun w0 Im0 ρ0=>?_
 repeat' (first|refine' ak | fail)
 all_goals try omega
 refine ⟨(aD (ι:={j:Nat // j <= l.length}) [1,15,16] [] [] ⟨0,π _⟩ (fun j=>l.length - j.1) (fun j=>[(17,.int .i64 j.1)]) (fun j=>[]) ?_ ?_).good⟩
 ·refine ⟨⟨rfl,rfl⟩,?_,?_⟩
  all_goals try refine' subB
 ·intro j
  conv=>whnf
  obtain ⟨j,hj⟩:=j
  repeat (refine gv ?_;conv=>whnf)
  refine aa (fun hb=>?_) (fun hb=>?_)
  ·have hlt:j < l.length:=by dsimp only at hb;omega
   have h1:=h _ (aH hlt)
   have er:l.getD (j:Int).toNat 0 = l.getD j 0:=rfl
   rw [<- er] at h1
   conv=>whnf
   repeat' (first|refine' ak|refine aF [] ⟨j + 1,ω⟩ ⟨⟨rfl,rfl⟩,?_,?_⟩ ?_)
   all_goals try first|(exfalso;dsimp only at *;omega)|(dsimp only;omega)|(dsimp only;unfold aj;omega)
   all_goals try refine' subB
  ·conv=>whnf
   repeat' (first|refine' ak | fail)
   exact Φ
theorem rQ (cap cls:Int) (l:List Int) (sz:List Sz) (hc:1 <= cap/\cap <= 4000) (hl:1 <= sz.length/\sz.length <= 6) (hcl:0 <= cls/\cls < sz.length) (h:aZ sz) (hs:SlotsOk l sz.length):q0c 308 [.int .i64 cap,.int .i64 cls,ints l,szs sz] (.int .i64 0):=by
 have p1:=dU cap cls sz hc hl hcl h
 have p2:=tH l sz.length hs
 refine opG func308 ntmps308 results308 fun w0 Im0 ρ0=>?_
 repeat' (first|refine' ak|refine ab p1 ?_|refine ab p2 ?_)
 all_goals first|omega|exact Φ|(exfalso;omega)
theorem CF (l:List Int) (cl:Int) (h:SlotsOk l cl) (k t:Nat) (ht:t <= 1000):∃ b:Bool,(t < l.length -> b = decide (l.getD t 0 = (k:Int)))/\q0c 309 [ints l,.int .i64 k,.int .i64 t] (.bool b):=by
 have hl:=h.len
 have h1:=Int.tmod_nonneg (l.length:Int) (ω:(0:Int) <= t)
 have h2:=Int.tmod_lt_of_pos (t:Int) (ω:(0:Int) < (l.length:Int))
 refine opE func309 ntmps309 results309 ?_
 repeat' (first|refine' bb | fail)
 all_goals try exact ariB
 all_goals exact ⟨_,rfl,fun h9=>(by have e9:(t:Int).tmod l.length = t:=Int.tmod_eq_of_lt ω ω;simp only [e9,χ])⟩
set_option maxHeartbeats 1000000 in
theorem yW (l:List Int) (cl:Int) (h:SlotsOk l cl) (k t:Nat) (ht:t <= 1000):∃ x:Int × Bool,((x.2 = false -> ∀ i:Nat,i < l.length -> l.getD (((t:Int) + i).tmod l.length).toNat 0 = k)/\(x.2 = true -> ∃ i:Nat,i < l.length/\l.getD (((t:Int) + i).tmod l.length).toNat 0 ≠ k))/\q0c 314 [ints l,.int .i64 k,.int .i64 t] (rchR x):=by
 have hl:=h.len
 refine opE func314 ntmps314 results314 ?_ (hcl:=⟨rfl,rfl,by simp⟩) (hco:=fun x=>⟨tz x _,by simp,rfl⟩)
 repeat' (first|refine' ah | fail)
 refine ag (ι:={j:Nat // j <= l.length/\∀ i:Nat,i < j -> l.getD (((t:Int) + i).tmod l.length).toNat 0 = k}) [0,1,2,10] [] [] ⟨0,π _,ν⟩ (fun ⟨j,_⟩=>l.length - j) (fun ⟨j,_⟩=>[(11,.int .i64 j)]) (fun _=>[]) ?_ ?_
 ·exact ⟨⟨rfl,rfl⟩,sq1,sq1⟩
 ·rintro ⟨j,hj,hv⟩
  conv=>whnf
  repeat (refine gvE ?_;conv=>whnf)
  refine aa (fun hb=>?_) (fun hb=>?_)<;>conv=>whnf
  ·have hjl:j < l.length:=ω
   have h1:=Int.tmod_nonneg (l.length:Int) (ω:(0:Int) <= (t:Int) + j)
   have h2:=Int.tmod_lt_of_pos ((t:Int) + j) (ω:(0:Int) < (l.length:Int))
   repeat' (first|(exact aI [] ⟨j + 1,ω,fun i hi=>(ζ i j).elim (hv i) (fun h9=>by have e9:i = j:=ω;subst e9;assumption)⟩)|refine' ah | fail)
   all_goals try exact ariB
   all_goals exact ae ⟨(j,true),rfl,nofun,fun _=>⟨j,hjl,by assumption⟩⟩
  ·skip
   repeat' (first|refine' ah | fail)
   exact ae ⟨(0,false),rfl,fun _ i hi=>hv i ω,nofun⟩
theorem yX (l:List Int) (cl:Int) (h:SlotsOk l cl) (k t:Nat) (ht:t <= 1000):∃ x:Int × Bool,((x.2 = false -> ∀ i:Nat,i < l.length -> l.getD (((t:Int) + i).tmod l.length).toNat 0 = k)/\(x.2 = true -> ∃ i:Nat,i < l.length/\l.getD (((t:Int) + i).tmod l.length).toNat 0 ≠ k))/\q0c 310 [ints l,.int .i64 k,.int .i64 t] (rchR x):=by
 obtain ⟨x,hx,p1⟩:=yW l cl h k t ht
 refine ⟨x,hx,?_⟩
 refine opG func310 ntmps310 results310 fun w0 Im0 ρ0=>?_
 repeat' (first|refine' ak|refine ab p1 ?_)
 all_goals exact Φ
theorem Bp (cap lo t:Nat) (hc:cap <= 4000) (hlo:lo <= 1500) (ht:t <= 100000):q0c 311 (.int .i64 t :: [ib cap,ib lo]) (.int .i64 (slF cap lo t)):=by
 have m1:(cap:Int) * t <= 4000 * 100000:=Int.mul_le_mul ω ω ω ω
 have m0:0 <= (cap:Int) * t:=Int.mul_nonneg ω ω
 unfold slF
 refine opG func311 ntmps311 results311 fun w0 Im0 ρ0=>?_
 repeat' (first|refine' ak | fail)
 all_goals first|exact Φ|exact ariA|exact ⟨ω,υ⟩
theorem Bq (F:Nat -> Int) (N t:Nat) (ht:t < N):q0c 312 (.int .i64 t :: [.ibox [.isl N 1 (fun i=>[.int .i64 (F i)])] 0]) (.int .i64 (F t)):=by
 refine opG func312 ntmps312 results312 fun w0 Im0 ρ0=>?_
 repeat' (first|refine' ak | fail)
 all_goals first|exact Φ|rfl|exact ariA
theorem bif1 {b:Bool} {x y:Int}:(bif b then [AV.int .i64 x] else [.int .i64 y]) = [.int .i64 (bif b then x else y)]:=by cases b<;>rfl
def tI (l:List Int) (i:Nat):Int:=bif Nat.blt i (l.length + l.length + l.length) then (bif Nat.blt i (l.length + l.length) then (bif Nat.blt i l.length then l.getD i 0 else l.getD (i - l.length) 0) else l.getD (i - (l.length + l.length)) 0) else l.getD (i - (l.length + l.length + l.length)) 0
theorem Br (l:List Int) (i:Nat):(bif Nat.blt i (l.length + l.length + l.length) then (bif Nat.blt i (l.length + l.length) then (bif Nat.blt i l.length then [AV.int .i64 (l.getD i 0)] else [.int .i64 (l.getD (i - l.length) 0)]) else [.int .i64 (l.getD (i - (l.length + l.length)) 0)]) else [.int .i64 (l.getD (i - (l.length + l.length + l.length)) 0)]) = [.int .i64 (tI l i)]:=by
 unfold tI
 rw [bif1,bif1,bif1]
theorem yY {l:List Int} {i:Nat} (hi:i < 4 * l.length):tI l i = l.getD (i % l.length) 0:=by
 obtain ⟨n,en⟩:∃ n,n = l.length:=⟨_,rfl⟩
 have bl:∀ a b:Nat,Nat.blt a b = decide (a < b):=fun a b=>by
  by_cases h:a < b
  ·rw [Nat.blt_eq.mpr h,decide_eq_true h]
  ·rw [decide_eq_false h]
   cases hb:Nat.blt a b with
   | false=>rfl
   | true=>exact absurd (Nat.blt_eq.mp hb) h
 unfold tI
 rw [bl,bl,bl,<- en]
 by_cases h1:i < n
 ·rw [decide_eq_true (ω:i < n + n + n),decide_eq_true (ω:i < n + n),decide_eq_true h1,Nat.mod_eq_of_lt h1];rfl
 ·by_cases h2:i < n + n
  ·rw [decide_eq_true (ω:i < n + n + n),decide_eq_true h2,decide_eq_false h1,Nat.mod_eq_sub_mod ω,Nat.mod_eq_of_lt ω];rfl
  ·by_cases h3:i < n + n + n
   ·rw [decide_eq_true h3,decide_eq_false h2,Nat.mod_eq_sub_mod ω,Nat.mod_eq_sub_mod ω,Nat.mod_eq_of_lt ω,(ω:i - n - n = i - (n + n))];rfl
   ·rw [decide_eq_false h3,Nat.mod_eq_sub_mod ω,Nat.mod_eq_sub_mod ω,Nat.mod_eq_sub_mod ω,Nat.mod_eq_of_lt ω,(ω:i - n - n - n = i - (n + n + n))];rfl
theorem yZ {F G:Nat -> Int} {s p:Nat} {I:Int} (hp:1 <= p) (h:∀ t,t < s + p -> F t = G t) (t:Nat):extF F s p I t = extF G s p I t:=by
 unfold extF
 split
 ·exact h t ω
 ·rw [h _ (by have:=Nat.mod_lt (t - s) (ω:0 < p);omega)]
theorem mD {cap lo:Int} {tb:Nat -> Bool} {c i:Nat} {s p:Int} (h:(s,p) = slS cap lo tb c i) (ht:tb (c + i) = true):(s,p + cap) = slS cap lo tb c (i + 1):=by
 rw [show slS cap lo tb c (i + 1) = if tb (c + i) then ((slS cap lo tb c i).1,(slS cap lo tb c i).2 + cap) else ((slS cap lo tb c i).1 + max 0 ((slS cap lo tb c i).2 - lo),0) from rfl,if_pos ht,<- h]
theorem kL {cap lo:Int} {tb:Nat -> Bool} {c i:Nat} {s p:Int} (h:(s,p) = slS cap lo tb c i) (ht:tb (c + i) = false):(s + max 0 (p - lo),0) = slS cap lo tb c (i + 1):=by
 rw [show slS cap lo tb c (i + 1) = if tb (c + i) then ((slS cap lo tb c i).1,(slS cap lo tb c i).2 + cap) else ((slS cap lo tb c i).1 + max 0 ((slS cap lo tb c i).2 - lo),0) from rfl,if_neg (by rw [ht];decide),<- h]
structure OuterQ (N j:Nat) (G:Nat -> Int):Prop where
 pos:∀ i,i < N -> 0 <= G i
 mono:∀ i j,i <= j -> j < N -> G i <= G j
 low:0 < j -> ∀ i,i < N -> G i <= 4000 * N
structure InnerQ (H:Nat -> Int) (lo k:Nat) (sum part:Int) (G:Nat -> Int):Prop where
 s:0 <= sum
 p:0 <= part
 b:sum + part <= 4000 * k
 rest:∀ i,k <= i -> G i = H i
 done:∀ i,i < k -> 0 <= G i/\G i <= H i/\G i <= sum + max 0 (part - lo)
 mono:∀ i j,i <= j -> j < k -> G i <= G j
def updF (G:Nat -> Int) (k:Nat) (v:Int):Nat -> Int:=fun i=>bif Nat.beq i k then v else G i
theorem hU (G:Nat -> Int) (k:Nat) (v:Int):updF G k v k = v:=by unfold updF;rw [Nat.beq_refl];rfl
theorem iW {G:Nat -> Int} {k i:Nat} {v:Int} (h:i ≠ k):updF G k v i = G i:=by
 unfold updF
 rw [show Nat.beq i k = false from Bool.eq_false_iff.mpr fun e=>h (Nat.eq_of_beq_eq_true e)];rfl
theorem ou {H G:Nat -> Int} {lo k N:Nat} {sum part s' p':Int} (h:InnerQ H lo k sum part G) (hH:∀ i,i < N -> 0 <= H i) (hm:∀ i j,i <= j -> j < N -> H i <= H j) (hk:k < N)
  (h1:0 <= s') (h2:0 <= p') (h3:s' + p' <= 4000 * ((k + 1:Nat):Int)) (h4:sum + max 0 (part - lo) <= s' + max 0 (p' - lo)):InnerQ H lo (k + 1) s' p' (updF G k (min (G k) (sum + max 0 (part - lo)))):=by
 have hs:=h.s
 have hp:=h.p
 have hGk:=h.rest k (ξ _)
 have hHk:=hH k hk
 refine ⟨h1,h2,h3,fun i hi=>?_,fun i hi=>?_,fun i j hij hj=>?_⟩
 ·rw [iW ω];exact h.rest i ω
 ·rcases ζ i k with h5 | h5
  ·rw [iW ω]
   have:=h.done i h5
   omega
  ·have e:i = k:=ω
   subst e
   rw [hU]
   omega
 ·rcases ζ j k with h5 | h5
  ·rw [iW ω,iW ω]
   exact h.mono i j hij h5
  ·have e:j = k:=ω
   subst e
   rw [hU]
   rcases ζ i j with h6 | h6
   ·rw [iW ω]
    have h7:=h.done i h6
    have h8:=hm i j hij hk
    omega
   ·have e:i = j:=ω
    subst e
    rw [hU]
    exact Int.le_refl _
theorem za {H G:Nat -> Int} {lo N j:Nat} {sum part:Int} (h:InnerQ H lo N sum part G):OuterQ N (j + 1) G:=by
 refine ⟨fun i hi=>(h.done i hi).1,h.mono,fun _ i hi=>?_⟩
 have:=h.done i hi
 have hs:=h.s
 have hp:=h.p
 have hb:=h.b
 omega
theorem upd_eq {H G:Nat -> Int} {i:Nat} {v:Int} {f:Nat -> Int} (h0:G i = H i) (hv:v = f i) (h:∀ i',i' < i -> G i' = min (H i') (f i')):∀ i',i' < i + 1 -> updF G i (min (G i) v) i' = min (H i') (f i'):=fun i' hi'=>by
 rcases ζ i' i with g | g
 ·rw [iW ω];exact h i' g
 ·have e:i' = i:=ω
  subst e
  rw [hU,h0,hv]
set_option maxHeartbeats 4000000 in
theorem zb (cap k:Nat) (l:List Int) (sz:List Sz) (hc:1 <= cap/\cap <= 4000) (hl:1 <= sz.length/\sz.length <= 6) (hk:k < sz.length) (h:aZ sz) (hs:SlotsOk l sz.length) :
  ∃ x,(FinA x/\ca (cK cap k l sz) x)/\q0c 307 [.int .i64 cap,.int .i64 k,ints l,szs sz] (aA x):=by
 have p1:=rQ cap k l sz ω hl ω h hs
 have hn:=hs.len
 have er2:sz.getD (k:Int).toNat (0,0) = sz.getD k (0,0):=rfl
 obtain ⟨s1,s2,s3⟩:=h k hk
 obtain ⟨lo,elo⟩:∃ lo:Nat,max 0 ((sz.getD (k:Int).toNat (0,0)).2 - 1) = (lo:Int):=⟨(max 0 ((sz.getD k (0,0)).2 - 1)).toNat,by rw [er2];omega⟩
 have hlo:lo <= 1499:=by rw [er2] at elo;omega
 have hdiv:lo / cap <= lo:=Nat.div_le_self lo cap
 have eM:1 <= (sz.getD k (0,0)).2 -> (sz.getD k (0,0)).2 - 1 = (lo:Int):=fun h=>by rw [er2] at elo;omega
 have f5:¬ tG l k \/ (sz.getD k (0,0)).2 < 1 -> FinA (.error 5)/\ca (cK cap k l sz) (.error 5):=fun h9=>⟨.inr (.inr (.inr rfl)),by unfold cK;rw [if_pos h9],nofun⟩
 obtain ⟨tb,etb⟩:∃ tb,tb = tbF l k:=⟨_,rfl⟩
 have f6:∀ x G,(tG l k -> 1 <= (sz.getD k (0,0)).2 -> cK cap k l sz = canC G) -> (∀ s t:Nat,s <= t -> G s <= G t) -> tG l k -> 1 <= (sz.getD k (0,0)).2 -> FinA x -> CanQ G x -> FinA x/\ca (cK cap k l sz) x:=fun x G h1 h2 h3 h4 h5 h6=>⟨h5,by rw [h1 h3 h4];exact h6.eq,fun w e=>by subst e;exact h6.gd h2⟩
 obtain ⟨N,eN⟩:∃ N,N = 3 * l.length:=⟨_,rfl⟩
 refine opE func307 ntmps307 results307 ?_ (hcl:=⟨rfl,rfl,by simp⟩) (hco:=fun x=>⟨aM x _,by simp,rfl⟩)
 repeat' (first|refine' ah|refine ab p1 ?_)
 all_goals try first|exact ariA|(rw [er2];unfold aj;omega)
 refine ag (ι:={p:Nat × Bool // p.1 <= l.length/\(p.2 = true ↔ ∃ i,i < p.1/\l.getD i 0 = k)}) [1,3,4,8,11,44] [4,8] [] ⟨(0,false),π _,by simp⟩ (fun ⟨(j,_),_⟩=>l.length - j) (fun ⟨(j,b),_⟩=>[(12,.lptr 12 0),(13,.bool b),(45,.int .i64 j)]) (fun _=>[(12,some (.box [.int .i64 lo]))]) ?_ ?_
 ·refine ⟨⟨rfl,rfl⟩,?_,?_⟩
  all_goals ((refine' subP)<;>first|exact ObLe.box (.cons (Θ elo) .nil)|exact sq1)
 ·rintro ⟨⟨j,b⟩,hj,hbi⟩
  conv=>whnf
  dsimp only at hj hbi
  by_cases hjl:(j:Int) < l.length
  ·obtain ⟨m,hm,p2⟩:=CF l sz.length hs k j ω
   have hm:=hm ω
   rcases b with _ | _
   ·skip
    repeat' (first|(refine aa (fun hb=>?_) (fun hb=>absurd hjl hb);conv=>whnf)|(exact aI [] ⟨(j + 1,m),κ,by dsimp only;rw [hm,decide_eq_true_iff];exact ⟨fun h9=>⟨j,Nat.lt_succ_self j,h9⟩,fun ⟨i,h8,h9⟩=>(ζ i j).elim (fun h7=>absurd (hbi.2 ⟨i,h7,h9⟩) τ) (fun h7=>by have e9:i = j:=ω;subst e9;exact h9)⟩⟩)|refine' ah|refine ab p2 ?_)
    all_goals try exact ariA
   ·skip
    repeat' (first|(refine aa (fun hb=>?_) (fun hb=>absurd hjl hb);conv=>whnf)|(exact aN [] ⟨(j + 1,true),κ,by dsimp only;obtain ⟨i,h8,h9⟩:=hbi.1 rfl;exact ⟨fun _=>⟨i,ω,h9⟩,fun _=>rfl⟩⟩ ⟨⟨rfl,rfl⟩,sq1,sq1⟩ (by first|omega|(dsimp only;omega)))|refine' ah|refine ab p2 ?_)
    all_goals try exact ariA
  ·have hsome:b = true ↔ tG l k:=by
    rw [hbi,(ω:j = l.length)];exact Iff.rfl
   obtain ⟨⟨u,e⟩,⟨hA0,hA1⟩,p3⟩:=yX l sz.length hs k 0 ω
   have hmod:∀ i:Nat,i < l.length -> (((0:Nat):Int) + i).tmod l.length = i:=fun i hi=>by
    rw [(ω:((0:Nat):Int) + i = i)];exact Int.tmod_eq_of_lt ω ω
   have hAll:e = false -> AllS l k:=fun h9 i hi=>by
    have:=hA0 h9 i hi
    rw [hmod i hi,χ] at this
    exact this
   have hNot:e = true -> ∃ i,i < l.length/\l.getD i 0 ≠ (k:Int):=fun h9=>by
    obtain ⟨i,hi,h8⟩:=hA1 h9
    rw [hmod i hi,χ] at h8
    exact ⟨i,hi,h8⟩
   obtain ⟨x,⟨hx,hxC⟩,p4⟩:=jH 311 [ib cap,ib lo] rfl (slF cap lo) (lo / cap + 1) 1 cap ω ω (fun t ht=>(by
    have m1:(cap:Int) * t <= 4000 * 100000:=Int.mul_le_mul ω ω ω ω
    unfold slF;omega)) (fun t ht=>Bp cap lo t hc.2 ω ω)
   rw [show ((lo / cap + 1:Nat):Int) = (lo:Int).tdiv cap + 1 from by rw [Int.natCast_add];rfl,show ((1:Nat):Int) = 1 from rfl] at p4
   have e3:(lo:Int).tdiv cap = ((lo / cap:Nat):Int):=rfl
   obtain ⟨q,eq⟩:∃ q:Nat,q = lo / cap:=⟨_,rfl⟩
   rw [<- eq] at e3 hdiv
   have hslF:∀ t,lo / cap + 1 <= t -> slF cap lo (t + 1) = slF cap lo t + cap:=fun t ht=>by
    have h9:lo < cap * (lo / cap + 1):=Nat.lt_mul_div_succ lo hc.1
    rw [Nat.mul_comm] at h9
    have h8:(lo / cap + 1) * cap <= t * cap:=Nat.mul_le_mul_right cap ht
    have h7:(cap:Int) * ((t + 1:Nat):Int) = cap * t + cap:=by rw [Int.natCast_succ,Int.mul_add,Int.mul_one]
    have h6:(cap:Int) * t = ((t * cap:Nat):Int):=by rw [Int.natCast_mul,Int.mul_comm]
    unfold slF
    rw [h7,h6]
    omega
   have hxq:b = true -> e = false -> 1 <= (sz.getD k (0,0)).2 -> FinA x/\ca (cK cap k l sz) x:=fun hb he h1=>by
    refine f6 x (slF cap lo) (fun h2 h3=>?_) (fun s t hst=>?_) (hsome.1 hb) h1 hx (hxC.of fun t=>yN (ξ 1) hslF t)
    ·unfold cK
     rw [if_neg (fun h9=>h9.elim (fun h8=>h8 h2) (fun h8=>absurd h8 (Int.not_lt.mpr h3))),if_pos (hAll he),eM h3,χ]
    ·have h9:(cap:Int) * s <= cap * t:=Int.mul_le_mul_of_nonneg_left ω ω
     unfold slF
     omega
   clear hxC
   rcases b with _ | _
   ·skip
    repeat' (first|(refine aa (fun hb=>absurd hb hjl) (fun hb=>?_);conv=>whnf)|refine' ah | fail)
    exact ae ⟨.error 5,rfl,f5 (.inl fun h9=>by have:=hsome.2 h9;cases this)⟩
   ·rcases e with _ | _
    ·rcases x with e | c
     ·skip
      repeat' (first|(refine ar [1,3,8,11,13,44,45] [8,4,12] [] [(4,.lptr 4 0),(12,.lptr 12 0)] [] ⟨⟨rfl,rfl⟩,sq1,sq1⟩ ?_;(conv=>whnf);(refine a7 4 rfl rfl rfl ?_ ?_ ?_;(solve | try refine' frzZ);(solve | try refine' frzZ));(conv=>whnf);(refine a7 12 rfl rfl rfl ?_ ?_ ?_;(solve | try refine' frzZ);(solve | try refine' frzZ));(conv=>whnf))|(refine aa (fun hb=>absurd hb hjl) (fun hb=>?_);conv=>whnf)|refine' ah|refine ab p3 ?_|refine ab p4 ?_)
      all_goals try first|exact ariA|(rw [e3];unfold aj;omega)|exact ⟨ω,by rw [e3];unfold aj;omega⟩
      ·exact ae ⟨.error 5,rfl,f5 (.inr (by rw [<- er2];omega))⟩
      ·exact ae ⟨.error e,rfl,hxq rfl rfl (by rw [<- er2];omega)⟩
     ·skip
      repeat' (first|(refine ar [1,3,8,11,13,44,45] [8,4,12] [] [(4,.lptr 4 0),(12,.lptr 12 0)] [] ⟨⟨rfl,rfl⟩,sq1,sq1⟩ ?_;(conv=>whnf);(refine a7 4 rfl rfl rfl ?_ ?_ ?_;(solve | try refine' frzZ);(solve | try refine' frzZ));(conv=>whnf);(refine a7 12 rfl rfl rfl ?_ ?_ ?_;(solve | try refine' frzZ);(solve | try refine' frzZ));(conv=>whnf))|(refine aa (fun hb=>absurd hb hjl) (fun hb=>?_);conv=>whnf)|refine' ah|refine ab p3 ?_|refine ab p4 ?_)
      all_goals try first|exact ariA|(rw [e3];unfold aj;omega)|exact ⟨ω,by rw [e3];unfold aj;omega⟩
      ·exact ae ⟨.error 5,rfl,f5 (.inr (by rw [<- er2];omega))⟩
      ·exact ae ⟨.ok c,rfl,hxq rfl rfl (by rw [<- er2];omega)⟩
    ·clear p4 hx hxq x
     repeat' (first|(refine ar [1,3,8,11,13,44,45] [8,4,12] [] [(4,.lptr 4 0),(12,.lptr 12 0)] [] ⟨⟨rfl,rfl⟩,sq1,sq1⟩ ?_;(conv=>whnf);(refine a7 4 rfl rfl rfl ?_ ?_ ?_;(solve | try refine' frzZ);(solve | try refine' frzZ));(conv=>whnf);(refine a7 12 rfl rfl rfl ?_ ?_ ?_;(solve | try refine' frzZ);(solve | try refine' frzZ));(conv=>whnf))|(refine aa (fun hb=>absurd hb hjl) (fun hb=>?_);conv=>whnf)|refine' ah|refine ab p3 ?_)
     all_goals try exact ariA
     ·exact ae ⟨.error 5,rfl,f5 (.inr (by rw [<- er2];omega))⟩
     have hM1:1 <= (sz.getD k (0,0)).2:=by rw [<- er2];omega
     refine ag (ι:={j:Nat // j <= N}) [1,4,8,11,12,18,19] [8] [] ⟨0,π _⟩ (fun ⟨j,_⟩=>N - j) (fun ⟨j,_⟩=>[(91,.int .i64 N),(92,.int .i64 j)]) (fun ⟨j,_⟩=>[(19,some (.box [.osl 89 N])),(89,some (.arr N 1 (gC (fun _=>inf) j) 3))]) ?_ ?_
     ·refine ⟨⟨rfl,rfl⟩,?_,?_⟩
      all_goals ((refine' subP)<;>first|exact q0a ω fun i hi=>rfl|exact ObLe.box (.cons (Ψ (congrArg (AV.osl 89) ω)) .nil)|exact Θ ω|exact sq1)
     ·rintro ⟨j,hj2⟩
      conv=>whnf
      by_cases hjN:(j:Int) < N
      ·skip
       repeat' (first|(refine aa (fun hb=>?_) (fun hb=>absurd hjN hb);conv=>whnf)|(refine' aU [] ⟨j + 1,ω⟩<;>first|exact q0a rfl fun i hi=>b5 rfl|exact sq1)|refine' ah | fail)
       all_goals try exact ariA
      ·skip
       repeat' (first|(refine aa (fun hb=>absurd hb hjN) (fun hb=>?_);conv=>whnf)|refine' ah | fail)
       all_goals try first|exact ariA|exact ⟨ω,ω,fun _ _=>rfl⟩
       refine ag (ι:={p:Nat × (Nat -> Int) // p.1 <= l.length/\OuterQ N p.1 p.2/\∀ i,i < N -> p.2 i = minJ (fun c=>slV cap lo tb c i) p.1}) [1,4,8,12,18,19,110] [8,19] [] ⟨(0,fun _=>inf),π _,⟨fun _ _=>(by decide:(0:Int) <= 4611686018427387904),fun _ _ _ _=>Int.le_refl _,fun h=>absurd h τ⟩,fun _ _=>rfl⟩ (fun ⟨(j,_),_⟩=>l.length - j)
        (fun ⟨(j,_),_⟩=>[(21,.osl 108 (l.length + l.length + l.length + l.length)),(111,.int .i64 j)]) (fun ⟨(_,G),_⟩=>[(89,some (.arr N 1 (fun i=>[.int .i64 (G i)]) 3)),(108,some (.arr (l.length + l.length + l.length + l.length) 1 (fun i=>[.int .i64 (tI l i)]) 3))]) ?_ ?_
       ·refine ⟨⟨rfl,rfl⟩,?_,?_⟩
        all_goals ((refine' subP)<;>first|exact q0a rfl fun i hi=>eX ω|exact q0a rfl fun i hi=>Br l i|exact sq1)
       ·rintro ⟨⟨j,H⟩,hj3,hH,hHe⟩
        conv=>whnf
        dsimp only at hj3 hH hHe
        by_cases hjo:(j:Int) < l.length
        ·skip
         repeat' (first|(refine aa (fun hb=>?_) (fun hb=>absurd hjo hb);conv=>whnf)|refine' ah | fail)
         all_goals try exact ariA
         refine ag (ι:={p:Nat × Int × Int × (Nat -> Int) // p.1 <= N/\InnerQ H lo p.1 p.2.1 p.2.2.1 p.2.2.2/\(p.2.1,p.2.2.1) = slS cap lo tb j p.1/\∀ i,i < p.1 -> p.2.2.2 i = min (H i) (slV cap lo tb j i)}) [1,4,8,12,18,19,21,22,110,111] [8,19,108] [] ⟨(0,0,0,H),π _,⟨Int.le_refl _,Int.le_refl _,Int.le_refl _,fun _ _=>rfl,ν,fun i j _ hi=>absurd hi (Nat.not_lt_zero j)⟩,rfl,ν⟩ (fun ⟨(j,_,_,_),_⟩=>N - j)
          (fun ⟨(j,s,p,_),_⟩=>[(115,.int .i64 N),(23,.int .i64 s),(24,.int .i64 p),(116,.int .i64 j)]) (fun ⟨(_,_,_,G),_⟩=>[(89,some (.arr N 1 (fun i=>[.int .i64 (G i)]) 3))]) ?_ ?_
         ·exact ⟨⟨rfl,rfl⟩,sq1,sq1⟩
         ·rintro ⟨⟨i,s,p,G⟩,hi,hG,hSe,hGe⟩
          conv=>whnf
          dsimp only at hi hG hSe hGe
          by_cases hiN:(i:Int) < N
          ·have g1:=hG.s
           have g2:=hG.p
           have g3:=hG.b
           have g4:=hG.rest i (ξ _)
           have g5:=hH.pos i ω
           have n1:=ou (s':=s) (p':=p + cap) hG hH.pos hH.mono ω ω ω ω ω
           have n2:=ou (s':=s + max 0 (p - lo)) (p':=0) hG hH.pos hH.mono ω ω ω ω ω
           have htb:tb (j + i) = decide (tI l ((j:Int) + i).toNat = (k:Int)):=by
            rw [etb,(ω:((j:Int) + i).toNat = j + i),yY ω];rfl
           have hve:s + max 0 (p - lo) = slV cap lo tb j i:=by unfold slV;rw [<- hSe]
           have u1:=upd_eq (f:=fun i=>slV cap lo tb j i) g4 hve hGe
           by_cases hq:tI l ((j:Int) + i).toNat = (k:Int)
           ·skip
            repeat' (first|(refine aa (fun hb=>?_) (fun hb=>absurd hq hb);conv=>whnf)|(refine aa (fun hb=>?_) (fun hb=>absurd hiN hb);conv=>whnf)|(exact aN [] ⟨(i + 1,_,_,_),κ,n1,mD hSe (by rw [htb];exact decide_eq_true hq),u1⟩ ⟨⟨rfl,rfl⟩,by ((refine' subP)<;>first|exact q0a rfl fun i hi=>bif1|exact sq1),by ((refine' subP)<;>first|exact q0a rfl fun i hi=>bif1|exact sq1)⟩ (by first|omega|(dsimp only;omega)))|refine' ah | fail)
            all_goals try exact ariA
           ·skip
            repeat' (first|(refine aa (fun hb=>absurd hb hq) (fun hb=>?_);conv=>whnf)|(refine aa (fun hb=>?_) (fun hb=>absurd hiN hb);conv=>whnf)|(exact aN [] ⟨(i + 1,_,_,_),κ,n2,kL hSe (by rw [htb];exact decide_eq_false hq),u1⟩ ⟨⟨rfl,rfl⟩,by ((refine' subP)<;>first|exact q0a rfl fun i hi=>bif1|exact sq1),by ((refine' subP)<;>first|exact q0a rfl fun i hi=>bif1|exact sq1)⟩ (by first|omega|(dsimp only;omega)))|refine' ah | fail)
            all_goals try exact ariA
          ·have ei:i = N:=ω
           subst ei
           have hGf:∀ i',i' < i -> G i' = minJ (fun c=>slV cap lo tb c i') (j + 1):=fun i' hi'=>by
            rw [hGe i' hi',hHe i' hi']
            refine mC (f:=fun c=>slV cap lo tb c i') ?_ j
            have h9:=(vp (cap:=(cap:Int)) (lo:=(lo:Int)) ω ω tb 0 i').2
            have h8:(cap:Int) * i' <= 4000 * 1000:=Int.mul_le_mul ω ω ω ω
            show slV cap lo tb 0 i' <= inf
            unfold inf
            omega
           repeat' (first|(refine aa (fun hb=>absurd hb hiN) (fun hb=>?_);conv=>whnf)|exact aI [] ⟨(j + 1,G),κ,za hG,hGf⟩|refine' ah | fail)
           all_goals try exact ariA
        ·have hlow:=hH.low ω
         have hmono:=hH.mono l.length (2 * l.length) ω ω
         have hl1:=hlow l.length ω
         have hl2:=hlow (2 * l.length) ω
         have hp1:=hH.pos l.length ω
         have e5:((2:Int) * (l.length:Int)).toNat = 2 * l.length:=ω
         have e6:(l.length:Int).toNat = l.length:=rfl
         have hHs:∀ t,t < N -> H t = slG cap lo l k t:=fun t ht=>by
          rw [hHe t ht,(ω:j = l.length - 1 + 1),etb];rfl
         obtain ⟨x,⟨hx,hxC⟩,p5⟩:=jH 312 [.ibox [.isl N 1 (fun i=>[.int .i64 (H i)])] 0] rfl H l.length l.length (H ((2:Int) * (l.length:Int)).toNat - H (l.length:Int).toNat) ω (by rw [e5,e6];omega) (fun t ht=>(by have:=hlow t ω;have:=hH.pos t ω;omega)) (fun t ht=>Bq H N t ω)
         have hq:FinA x/\ca (cK cap k l sz) x:=by
          obtain ⟨b0,hb0,hb1⟩:=hNot rfl
          have hrep:=fun t (ht:l.length <= t)=>yV (cap:=(cap:Int)) (lo:=(lo:Int)) (k:=(k:Int)) hb0 hb1 ht
          have hW:H ((2:Int) * (l.length:Int)).toNat - H (l.length:Int).toNat = slV cap lo (tbF l k) (b0 + 1) (l.length - 1):=by
           rw [e5,e6,hHs _ ω,hHs _ ω,(ω:2 * l.length = l.length + l.length),hrep _ (ξ _)]
           omega
          rw [hW] at hxC
          refine f6 x (slG cap lo l k) (fun h2 h3=>?_) (fun s t hst=>vq ω ω l k hst) (hsome.1 rfl) hM1 hx (hxC.of fun t=>(yZ ω (fun t ht=>hHs t ω) t).trans (yN ω hrep t))
          unfold cK
          rw [if_neg (fun h9=>h9.elim (fun h8=>h8 h2) (fun h8=>absurd h8 (Int.not_lt.mpr h3))),if_neg (fun h9=>hb1 (h9 b0 hb0)),eM h3]
         clear hxC
         rcases x with e | c
         ·skip
          repeat' (first|(refine aa (fun hb=>absurd hb hjo) (fun hb=>?_);conv=>whnf)|(refine ar [8,18,110,111] [8,19,89] [] [(19,.lptr 19 0)] [] ⟨⟨rfl,rfl⟩,sq1,sq1⟩ ?_;(conv=>whnf);(refine a7 89 rfl rfl (fun _ _=>rfl) ?_ ?_ ?_;(solve | try refine' frzZ);(solve | try refine' frzZ));(conv=>whnf);(refine a7 19 rfl rfl rfl ?_ ?_ ?_;(solve | try refine' frzZ);(solve | try refine' frzZ));(conv=>whnf))|refine' ah|refine ab p5 ?_)
          all_goals try first|exact ariA|(rw [e5,e6];unfold aj;omega)|exact ⟨ω,by rw [e5,e6];unfold aj;omega⟩
          exact ae ⟨.error e,rfl,hq⟩
         ·skip
          repeat' (first|(refine aa (fun hb=>absurd hb hjo) (fun hb=>?_);conv=>whnf)|(refine ar [8,18,110,111] [8,19,89] [] [(19,.lptr 19 0)] [] ⟨⟨rfl,rfl⟩,sq1,sq1⟩ ?_;(conv=>whnf);(refine a7 89 rfl rfl (fun _ _=>rfl) ?_ ?_ ?_;(solve | try refine' frzZ);(solve | try refine' frzZ));(conv=>whnf);(refine a7 19 rfl rfl rfl ?_ ?_ ?_;(solve | try refine' frzZ);(solve | try refine' frzZ));(conv=>whnf))|refine' ah|refine ab p5 ?_)
          all_goals try first|exact ariA|(rw [e5,e6];unfold aj;omega)|exact ⟨ω,by rw [e5,e6];unfold aj;omega⟩
          exact ae ⟨.ok c,rfl,hq⟩
theorem wM (l:Line) (cap k:Nat) (ec:l.cap = cap) (sz:List Sz) (hc:1 <= cap/\cap <= 4000) (hl:1 <= sz.length/\sz.length <= 6) (hk:k < sz.length) (h:aZ sz) (hs:SlotsOk l.slots sz.length) :
  ∃ x,(FinA x/\ca (cK cap k l.slots sz) x)/\∀ cs:List Curve,q0c 305 [.agg [],l.av,.int .i64 k,slc 3 Curve.cells c0 cs,szs sz] (aA x):=by
 obtain ⟨x,hx,p1⟩:=zb cap k l.slots sz hc hl hk h hs
 rw [<- ec] at p1
 refine ⟨x,hx,fun cs=>?_⟩
 rcases x with e | x
 ·refine opG func305 ntmps305 results305 fun w0 Im0 ρ0=>?_
  repeat' (first|refine' ak|refine ab p1 ?_)
  all_goals exact Φ
 ·refine opG func305 ntmps305 results305 fun w0 Im0 ρ0=>?_
  repeat' (first|refine' ak|refine ab p1 ?_)
  all_goals exact Φ
end Go.Nc
