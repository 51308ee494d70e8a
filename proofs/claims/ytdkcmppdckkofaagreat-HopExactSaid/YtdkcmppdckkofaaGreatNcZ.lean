/- Memory of the call's own that is written no more: it becomes immutable. And a nil slice that is about to grow. -/
import Derived.Test.YtdkcmppdckkofaaGreatNcW
namespace Go.Nc
theorem uC (n:Nat) (v:AV) (r:List (Nat × AV)) (k:Nat):luS ((n,v) :: r) k = if k = n then some v else luS r k:=by
 show (bif Nat.beq k n then _ else _) = _
 rw [aJ]
theorem oW (n:Nat) (v:Option LObj) (r:List (Nat × Option LObj)) (k:Nat):luB ((n,v) :: r) k = if k = n then v else luB r k:=by
 show (bif Nat.beq k n then _ else _) = _
 rw [aJ]
mutual
def frzV (id:Nat) (ob:LObj):AV -> AV
 | .osl i n=>bif Nat.beq i id then (match ob with | .arr _ sz get _=>.isl n sz get | _=>.junk) else .osl i n
 | .osub i off n sz=>bif Nat.beq i id then (match ob with | .arr _ _ get _=>.isl n sz (fun k=>get (off + k)) | _=>.junk) else .osub i off n sz
 | .lptr i off=>bif Nat.beq i id then (match ob with | .box cs=>.ibox cs off | _=>.junk) else .lptr i off
 | .optr i sz a j=>bif Nat.beq i id then (match ob with | .arr m sz' get _=>.eptr m sz' get a j | _=>.junk) else .optr i sz a j
 | .mref i=>bif Nat.beq i id then .junk else .mref i
 | .yld i=>bif Nat.beq i id then .junk else .yld i
 | .fn g cs=>.fn g (frzL id ob cs)
 | .agg cs=>.agg (frzL id ob cs)
 | .tup cs=>.tup (frzL id ob cs)
 | v=>v
def frzL (id:Nat) (ob:LObj):List AV -> List AV
 | []=>[]
 | c :: cs=>frzV id ob c :: frzL id ob cs
end
mutual
def frzC (id:Nat) (ob:LObj):AV -> Prop
 | .osl i n=>match Nat.beq i id,ob with | true,.arr m _ _ _=>n <= m | _,_=>True
 | .osub i off n sz=>match Nat.beq i id,ob with | true,.arr m sz' _ _=>n ≠ 0/\off + n <= m/\sz' = sz | _,_=>True
 | .optr i sz a _=>match Nat.beq i id,ob with | true,.arr m sz' _ _=>a < m/\sz' = sz | _,_=>True
 | .fn _ cs=>frzCL id ob cs
 | .agg cs=>frzCL id ob cs
 | .tup cs=>frzCL id ob cs
 | _=>True
def frzCL (id:Nat) (ob:LObj):List AV -> Prop
 | []=>True
 | c :: cs=>frzC id ob c/\frzCL id ob cs
end
theorem cF (id:Nat) (ob:LObj):∀ cs:List AV,(frzL id ob cs).length = cs.length
 | []=>rfl
 | c :: cs=>by simp [frzL,cF id ob cs]
theorem fQ (id:Nat) (ob:LObj):∀ (cs:List AV) (i:Nat),(frzL id ob cs)[i]? = (cs[i]?).map (frzV id ob)
 | [],i=>by simp [frzL]
 | c :: cs,0=>by simp [frzL]
 | c :: cs,i + 1=>by simp [frzL,fQ id ob cs i]
theorem lI {id:Nat} {ob:LObj}:∀ {cs:List AV},frzCL id ob cs -> ∀ c ∈ cs,frzC id ob c
 | [],_,c,hc=>by simp at hc
 | d :: ds,h,c,hc=>by
  rcases List.mem_cons.1 hc with rfl | hc
  ·exact h.1
  ·exact lI h.2 c hc
section
variable {ρ:Loc} {Im:Nat -> Prop} {H:Heap}
mutual
theorem lJ:∀ (v:AV) (x:Value),nmV [] v = true -> Con ρ Im H v x -> ConI Im H v x
 | .lptr id off,x,hn,_=>by simp [nmV] at hn
 | .osl id n,x,hn,_=>by simp [nmV] at hn
 | .osub id off n sz,x,hn,_=>by simp [nmV] at hn
 | .optr id sz i j,x,hn,_=>by simp [nmV] at hn
 | .mref id,x,hn,_=>by simp [nmV] at hn
 | .yld id,x,hn,_=>by simp [nmV] at hn
 | .fn g cs,x,hn,h=>by
  simp only [nmV] at hn
  cases h with
  | imm _ _ hi=>exact hi
  | fn _ _ xs hl hc=>exact .fn g cs xs hl (cons_imm cs xs hn hl hc)
 | .agg cs,x,hn,h=>by
  simp only [nmV] at hn
  obtain ⟨xs,rfl,hl,hc⟩:=h.agg_inv
  exact .agg cs xs hl (cons_imm cs xs hn hl hc)
 | .tup cs,x,hn,h=>by
  simp only [nmV] at hn
  obtain ⟨xs,rfl,hl,hc⟩:=h.tup_inv
  exact .tup cs xs hl (cons_imm cs xs hn hl hc)
 | .int k n,x,_,h=>by cases h with | imm _ _ hi=>exact hi
 | .bool b,x,_,h=>by cases h with | imm _ _ hi=>exact hi
 | .str s,x,_,h=>by cases h with | imm _ _ hi=>exact hi
 | .junk,x,_,h=>.junk x
 | .isl n sz g,x,_,h=>by cases h with | imm _ _ hi=>exact hi
 | .icap n sz g,x,_,h=>by cases h with | imm _ _ hi=>exact hi
 | .eptr n sz g i j,x,_,h=>by cases h with | imm _ _ hi=>exact hi
 | .ibox cs off,x,_,h=>by cases h with | imm _ _ hi=>exact hi
 | .nils,x,_,h=>by cases h with | imm _ _ hi=>exact hi
 | .emp,x,_,h=>by cases h with | imm _ _ hi=>exact hi
 | .niface,x,_,h=>by cases h with | imm _ _ hi=>exact hi
 | .nfunc,x,_,h=>by cases h with | imm _ _ hi=>exact hi
 | .nptr,x,_,h=>by cases h with | imm _ _ hi=>exact hi
 | .nmap,x,_,h=>by cases h with | imm _ _ hi=>exact hi
 | .iface t v,x,_,h=>by cases h with | imm _ _ hi=>exact hi
theorem cons_imm:∀ (cs:List AV) (xs:Array Value),nmL [] cs = true -> xs.size = cs.length -> (∀ (i:Nat) (c:AV) (x:Value),cs[i]? = some c -> xs[i]? = some x -> Con ρ Im H c x) ->
  ∀ (i:Nat) (c:AV) (x:Value),cs[i]? = some c -> xs[i]? = some x -> ConI Im H c x
 | [],_,_,_,_,i,c,x,h,_=>by simp at h
 | d :: ds,xs,hn,hl,hc,0,c,x,h,hx=>by
  simp only [nmL,Bool.and_eq_true] at hn
  simp at h
  subst h
  exact lJ d x hn.1 (hc 0 d x η hx)
 | d :: ds,xs,hn,hl,hc,i + 1,c,x,h,hx=>by
  simp only [nmL,Bool.and_eq_true] at hn
  refine cons_imm ds (xs.extract 1 xs.size) hn.2 (by simp at hl ⊢;omega) (fun j c' x' h1 h2=>hc (j + 1) c' x' (by simpa using h1) ?_) i c x (by simpa using h) ?_
  ·simp only [Array.getElem?_extract] at h2
   split at h2
   ·rw [Nat.add_comm];exact h2
   ·cases h2
  ·simp only [Array.getElem?_extract]
   have:i + 1 < xs.size:=(Array.getElem?_eq_some_iff.1 hx).1
   rw [if_pos ω,Nat.add_comm]
   exact hx
end
def imOf (ob:LObj):Prop:=match ob with
 | .box cs=>nmL [] cs = true
 | .arr n _ get _=>∀ i,i < n -> nmL [] (get i) = true
 | _=>False
mutual
theorem d7 {id:Nat} {ob:LObj} (ho:ObjCon ρ Im H id ob) (him:imOf ob):∀ (v:AV) (x:Value),frzC id ob v -> Con ρ Im H v x -> Con ρ (fun b=>Im b \/ (ρ id).1 = some b) H (frzV id ob v) x
 | .lptr i off,x,_,h=>by
  cases h with
  | imm _ _ hi=>cases hi
  | lptr _ _ b hb=>
   simp only [frzV,aJ]
   split
   ·rename_i hid
    subst hid
    cases ho with
    | box cells b' xs T hρ hh hc=>
     rw [hb] at hρ
     cases hρ
     refine .imm _ _ (.ibox cells off b xs T (0,0) (.inr hb) hh hc.1 fun j c x h1 h2=>?_)
     exact (lJ c x (cM him c (List.mem_of_getElem? h1)) (hc.2 j c x h1 h2)).mono (fun b hb=>.inl hb) fun b _=>rfl
    | _=>exact .imm _ _ (.junk _)
   ·exact .lptr i off b hb
 | .osl i n,x,hcc,h=>by
  cases h with
  | imm _ _ hi=>cases hi
  | osl _ _ h1 h2 h3=>
   simp only [frzV,aJ]
   split
   ·rename_i hid
    subst hid
    simp only [frzC,Nat.beq_refl] at hcc
    cases ho with
    | arr0 sz get T hρ=>
     simp only at hcc ⊢
     have:n = 0:=ω
     subst this
     rw [hρ]
     exact .imm _ _ (.isl0 sz get _)
    | arr m sz get T b xs hρ hh hn hcap hxs hbd hsz hc=>
     simp only at hcc ⊢
     have e0:((ρ i).1.map fun b=>(⟨b,0,none⟩:Addr)) = some ⟨b,0,none⟩:=by rw [hρ];rfl
     rw [e0]
     have hle:n * sz <= (ρ i).2 * sz:=Nat.mul_le_mul_right _ h3
     refine .imm _ _ (.isl n sz get b 0 _ xs T (0,0) (.inr hρ) hh (fun j hj=>hsz j ω) h3 (oL h1) ω fun j q c x hj h4 h5=>?_)
     exact (lJ c x (cM (him j ω) c (List.mem_of_getElem? h4)) (hc j q c x ω h4 (by simpa using h5))).mono (fun b hb=>.inl hb) fun b _=>rfl
    | _=>exact .imm _ _ (.junk _)
   ·exact .osl i n h1 h2 h3
 | .osub i off n sz,x,hcc,h=>by
  cases h with
  | imm _ _ hi=>cases hi
  | osub _ _ _ _ cap p h1 h2 h3=>
   simp only [frzV,aJ]
   split
   ·rename_i hid
    subst hid
    simp only [frzC,Nat.beq_refl] at hcc
    cases ho with
    | arr0 sz' get T hρ=>simp only at hcc;omega
    | arr m sz' get T b' xs hρ hh hn hcap hxs hbd hsz hc=>
     simp only at hcc ⊢
     obtain ⟨hn0,hlt,rfl⟩:=hcc
     obtain ⟨b,hb,rfl⟩:=h2 hn0
     rw [hb] at hρ
     cases hρ
     have hle:(off + n) * sz' <= (ρ i).2 * sz':=Nat.mul_le_mul_right _ ω
     rw [Nat.add_mul] at hle
     refine .imm _ _ (.isl n sz' (fun k=>get (off + k)) b' (off * sz') _ xs T (0,0) (.inr hb) hh (fun j hj=>hsz _ ω) h3 (oL h1) ω fun j q c x hj h4 h5=>?_)
     refine (lJ c x (cM (him (off + j) ω) c (List.mem_of_getElem? h4)) (hc (off + j) q c x ω h4 ?_)).mono (fun b hb=>.inl hb) fun b _=>rfl
     rw [<- h5]
     congr 1
     rw [Nat.add_mul]
    | _=>exact .imm _ _ (.junk _)
   ·exact .osub i off n sz cap p h1 h2 h3
 | .optr i sz a j,x,hcc,h=>by
  cases h with
  | imm _ _ hi=>cases hi
  | optr _ _ _ _ b hb=>
   simp only [frzV,aJ]
   split
   ·rename_i hid
    subst hid
    simp only [frzC,Nat.beq_refl] at hcc
    cases ho with
    | arr0 sz' get T hρ=>rw [hρ] at hb;cases hb
    | arr m sz' get T b' xs hρ hh hn hcap hxs hbd hsz hc=>
     simp only at hcc ⊢
     obtain ⟨hlt,rfl⟩:=hcc
     rw [hb] at hρ
     cases hρ
     have hle:m * sz' <= (ρ i).2 * sz':=Nat.mul_le_mul_right _ hn
     have:=ConI.eptr (Im:=fun b=>Im b \/ (ρ i).1 = some b) (H:=H) m sz' get a j b 0 xs T (0,0) (.inr hb) hh (fun q hq=>hsz q hq) ω (fun q p c x hq h4 h5=>
      (lJ c x (cM (him q hq) c (List.mem_of_getElem? h4)) (hc q p c x hq h4 (by simpa using h5))).mono (fun b hb=>.inl hb) fun b _=>rfl) hlt
     rw [Nat.zero_add] at this
     exact .imm _ _ this
    | _=>exact .imm _ _ (.junk _)
   ·exact .optr i sz a j b hb
 | .mref i,x,_,h=>by
  simp only [frzV,aJ]
  split
  ·exact .imm _ _ (.junk _)
  ·cases h with
   | imm _ _ hi=>cases hi
   | mref _ b hb=>exact .mref i b hb
 | .yld i,x,_,h=>by
  simp only [frzV,aJ]
  split
  ·exact .imm _ _ (.junk _)
  ·cases h with
   | imm _ _ hi=>cases hi
   | yld _ b hb=>exact .yld i b hb
 | .fn g cs,x,hcc,h=>by
  simp only [frzV]
  have:∃ xs,x = .func (.func g) #[] xs/\Cons ρ Im H cs xs:=by
   cases h with
   | imm _ _ hi=>
    cases hi with
    | fn _ _ xs hl hc=>exact ⟨xs,rfl,hl,fun i c x h1 h2=>.imm _ _ (hc i c x h1 h2)⟩
   | fn _ _ xs hl hc=>exact ⟨xs,rfl,hl,hc⟩
  obtain ⟨xs,rfl,hl,hc⟩:=this
  exact .fn g _ xs (by rw [hl,cF]) (frz_cons ho him cs xs hcc hl hc)
 | .agg cs,x,hcc,h=>by
  simp only [frzV]
  obtain ⟨xs,rfl,hl,hc⟩:=h.agg_inv
  exact .agg _ xs (by rw [hl,cF]) (frz_cons ho him cs xs hcc hl hc)
 | .tup cs,x,hcc,h=>by
  simp only [frzV]
  obtain ⟨xs,rfl,hl,hc⟩:=h.tup_inv
  exact .tup _ xs (by rw [hl,cF]) (frz_cons ho him cs xs hcc hl hc)
 | .int k n,x,_,h=>h.mono (fun b hb=>.inl hb) fun b _=>rfl
 | .bool b,x,_,h=>h.mono (fun b hb=>.inl hb) fun b _=>rfl
 | .str s,x,_,h=>h.mono (fun b hb=>.inl hb) fun b _=>rfl
 | .junk,x,_,h=>.imm _ _ (.junk x)
 | .isl n sz g,x,_,h=>h.mono (fun b hb=>.inl hb) fun b _=>rfl
 | .icap n sz g,x,_,h=>h.mono (fun b hb=>.inl hb) fun b _=>rfl
 | .eptr n sz g i j,x,_,h=>h.mono (fun b hb=>.inl hb) fun b _=>rfl
 | .ibox cs off,x,_,h=>h.mono (fun b hb=>.inl hb) fun b _=>rfl
 | .nils,x,_,h=>h.mono (fun b hb=>.inl hb) fun b _=>rfl
 | .emp,x,_,h=>h.mono (fun b hb=>.inl hb) fun b _=>rfl
 | .niface,x,_,h=>h.mono (fun b hb=>.inl hb) fun b _=>rfl
 | .nfunc,x,_,h=>h.mono (fun b hb=>.inl hb) fun b _=>rfl
 | .nptr,x,_,h=>h.mono (fun b hb=>.inl hb) fun b _=>rfl
 | .nmap,x,_,h=>h.mono (fun b hb=>.inl hb) fun b _=>rfl
 | .iface t v,x,_,h=>h.mono (fun b hb=>.inl hb) fun b _=>rfl
theorem frz_cons {id:Nat} {ob:LObj} (ho:ObjCon ρ Im H id ob) (him:imOf ob):∀ (cs:List AV) (xs:Array Value),frzCL id ob cs -> xs.size = cs.length -> (∀ (i:Nat) (c:AV) (x:Value),cs[i]? = some c -> xs[i]? = some x -> Con ρ Im H c x) ->
  ∀ (i:Nat) (c:AV) (x:Value),(frzL id ob cs)[i]? = some c -> xs[i]? = some x -> Con ρ (fun b=>Im b \/ (ρ id).1 = some b) H c x
 | [],_,_,_,_,i,c,x,h,_=>by simp [frzL] at h
 | d :: ds,xs,hcc,hl,hc,0,c,x,h,hx=>by
  simp [frzL] at h
  subst h
  exact d7 ho him d x hcc.1 (hc 0 d x η hx)
 | d :: ds,xs,hcc,hl,hc,i + 1,c,x,h,hx=>by
  refine frz_cons ho him ds (xs.extract 1 xs.size) hcc.2 (by simp at hl ⊢;omega) (fun j c' x' h1 h2=>hc (j + 1) c' x' (by simpa using h1) ?_) i c x (by simpa [frzL] using h) ?_
  ·simp only [Array.getElem?_extract] at h2
   split at h2
   ·rw [Nat.add_comm];exact h2
   ·cases h2
  ·simp only [Array.getElem?_extract]
   have:i + 1 < xs.size:=(Array.getElem?_eq_some_iff.1 hx).1
   rw [if_pos ω,Nat.add_comm]
   exact hx
end
end
theorem fD {id:Nat} {ob:LObj} (him:imOf ob):∀ {v:AV} {i:Nat},Names i (frzV id ob v) -> Names i v/\i ≠ id:=by
 intro v i h
 generalize hu:frzV id ob v = u at h
 induction h generalizing v with
 | lptr off=>
  cases v<;>simp only [frzV,aJ] at hu<;>first|(split at hu<;>first|(cases ob<;>simp at hu;done)|(simp at hu;done) | skip)|(simp at hu;done) | skip
  all_goals (simp only [AV.lptr.injEq] at hu;obtain ⟨rfl,rfl⟩:=hu;exact ⟨.lptr _,by assumption⟩)
 | osl n=>
  cases v<;>simp only [frzV,aJ] at hu<;>first|(split at hu<;>first|(cases ob<;>simp at hu;done)|(simp at hu;done) | skip)|(simp at hu;done) | skip
  all_goals (simp only [AV.osl.injEq] at hu;obtain ⟨rfl,rfl⟩:=hu;exact ⟨.osl _,by assumption⟩)
 | osub off n sz=>
  cases v<;>simp only [frzV,aJ] at hu<;>first|(split at hu<;>first|(cases ob<;>simp at hu;done)|(simp at hu;done) | skip)|(simp at hu;done) | skip
  all_goals (simp only [AV.osub.injEq] at hu;obtain ⟨rfl,rfl,rfl,rfl⟩:=hu;exact ⟨.osub _ _ _,by assumption⟩)
 | optr sz a j=>
  cases v<;>simp only [frzV,aJ] at hu<;>first|(split at hu<;>first|(cases ob<;>simp at hu;done)|(simp at hu;done) | skip)|(simp at hu;done) | skip
  all_goals (simp only [AV.optr.injEq] at hu;obtain ⟨rfl,rfl,rfl,rfl⟩:=hu;exact ⟨.optr _ _ _,by assumption⟩)
 | mref=>
  cases v<;>simp only [frzV,aJ] at hu<;>first|(split at hu<;>first|(cases ob<;>simp at hu;done)|(simp at hu;done) | skip)|(simp at hu;done) | skip
  all_goals (simp only [AV.mref.injEq] at hu;subst hu;exact ⟨.mref,by assumption⟩)
 | yld=>
  cases v<;>simp only [frzV,aJ] at hu<;>first|(split at hu<;>first|(cases ob<;>simp at hu;done)|(simp at hu;done) | skip)|(simp at hu;done) | skip
  all_goals (simp only [AV.yld.injEq] at hu;subst hu;exact ⟨.yld,by assumption⟩)
 | fn f caps c hm _ ih=>
  cases v<;>simp only [frzV,aJ] at hu<;>first|(split at hu<;>first|(cases ob<;>simp at hu;done)|(simp at hu;done) | skip)|(simp at hu;done) | skip
  all_goals
   simp only [AV.fn.injEq] at hu
   obtain ⟨rfl,rfl⟩:=hu
   obtain ⟨j,hj⟩:=List.mem_iff_getElem?.1 hm
   rw [fQ] at hj
   obtain ⟨d,hd,rfl⟩:=Option.map_eq_some_iff.1 hj
   obtain ⟨h1,h2⟩:=ih rfl
   exact ⟨.fn _ _ d (List.mem_of_getElem? hd) h1,h2⟩
 | agg cs c hm _ ih=>
  cases v<;>simp only [frzV,aJ] at hu<;>first|(split at hu<;>first|(cases ob<;>simp at hu;done)|(simp at hu;done) | skip)|(simp at hu;done) | skip
  all_goals
   simp only [AV.agg.injEq] at hu
   subst hu
   obtain ⟨j,hj⟩:=List.mem_iff_getElem?.1 hm
   rw [fQ] at hj
   obtain ⟨d,hd,rfl⟩:=Option.map_eq_some_iff.1 hj
   obtain ⟨h1,h2⟩:=ih rfl
   exact ⟨.agg _ d (List.mem_of_getElem? hd) h1,h2⟩
 | tup cs c hm _ ih=>
  cases v<;>simp only [frzV,aJ] at hu<;>first|(split at hu<;>first|(cases ob<;>simp at hu;done)|(simp at hu;done) | skip)|(simp at hu;done) | skip
  all_goals
   simp only [AV.tup.injEq] at hu
   subst hu
   obtain ⟨j,hj⟩:=List.mem_iff_getElem?.1 hm
   rw [fQ] at hj
   obtain ⟨d,hd,rfl⟩:=Option.map_eq_some_iff.1 hj
   obtain ⟨h1,h2⟩:=ih rfl
   exact ⟨.tup _ d (List.mem_of_getElem? hd) h1,h2⟩
def frzO (id:Nat) (ob:LObj):LObj -> LObj
 | .box cs=>.box (frzL id ob cs)
 | .arr n sz get T=>.arr n sz (fun i=>frzL id ob (get i)) T
 | .map kvs=>.map (kvs.map fun p=>(frzV id ob p.1,frzV id ob p.2))
 | .lrec st pe ks cs ps assign body nt=>.lrec st pe ks (frzL id ob cs) ps assign body nt
 | .dead=>.dead
def Ct (id:Nat) (ob:LObj):LObj -> Prop
 | .box cs=>frzCL id ob cs
 | .arr n _ get _=>∀ i,i < n -> frzCL id ob (get i)
 | .map kvs=>∀ k v,(k,v) ∈ kvs -> frzC id ob k/\frzC id ob v
 | .lrec _ _ _ cs _ _ _ _=>frzCL id ob cs
 | .dead=>True
theorem rc (id:Nat) (ob u:LObj):(frzO id ob u).live = u.live:=by cases u<;>rfl
theorem uD {ρ:Loc} {Im:Nat -> Prop} {H:Heap} {id:Nat} {ob:LObj} (ho:ObjCon ρ Im H id ob) (him:imOf ob) {j:Nat} {u:LObj} (hc:Ct id ob u) (h:ObjCon ρ Im H j u):ObjCon ρ (fun b=>Im b \/ (ρ id).1 = some b) H j (frzO id ob u):=by
 cases h with
 | dead=>exact .dead
 | box cells b xs T h1 h2 h3=>exact .box _ b xs T h1 h2 ⟨by rw [h3.1,cF],frz_cons ho him cells xs hc h3.1 h3.2⟩
 | arr0 sz get T h1=>exact .arr0 sz _ T h1
 | arr n sz get T b xs h1 h2 h3 h4 h5 h6 h7 h8=>
  refine .arr n sz _ T b xs h1 h2 h3 h4 h5 h6 (fun i hi=>by rw [cF];exact h7 i hi) fun i q c x hi h9 h10=>?_
  rw [fQ] at h9
  obtain ⟨d,hd,rfl⟩:=Option.map_eq_some_iff.1 h9
  exact d7 ho him d x (lI (hc i hi) d (List.mem_of_getElem? hd)) (h8 i q d x hi hd h10)
 | map kvs b es clock h1 h2 h3 h4=>
  refine .map _ b es clock h1 h2 (by rw [h3];simp) fun i k v e h5 h6=>?_
  simp only [List.getElem?_map] at h5
  obtain ⟨p,hp,he⟩:=Option.map_eq_some_iff.1 h5
  simp only [Prod.mk.injEq] at he
  obtain ⟨rfl,rfl⟩:=he
  have hm:=hc p.1 p.2 (List.mem_of_getElem? hp)
  have:=h4 i p.1 p.2 e hp h6
  exact ⟨d7 ho him _ _ hm.1 this.1,d7 ho him _ _ hm.2 this.2⟩
 | lrec st pe ks cs ps assign body nt b r h1 h2 h3 h4=>
  refine .lrec st pe ks _ ps assign body nt b r h1 h2 { h3 with len:=by rw [h3.len,cF] } fun i k c h5 h6=>?_
  rw [fQ] at h6
  obtain ⟨d,hd,rfl⟩:=Option.map_eq_some_iff.1 h6
  obtain ⟨x,hx,hcx⟩:=h4 i k d h5 hd
  exact ⟨x,hx,d7 ho him d x (lI hc d (List.mem_of_getElem? hd)) hcx⟩
theorem wd {id:Nat} {ob:LObj} (him:imOf ob) {u:LObj} {i:Nat} (h:NamesO i (frzO id ob u)):NamesO i u/\i ≠ id:=by
 have mem:∀ {cs:List AV} {c:AV},c ∈ frzL id ob cs -> ∃ d ∈ cs,c = frzV id ob d:=by
  intro cs c hm
  obtain ⟨j,hj⟩:=List.mem_iff_getElem?.1 hm
  rw [fQ] at hj
  obtain ⟨d,hd,rfl⟩:=Option.map_eq_some_iff.1 hj
  exact ⟨d,List.mem_of_getElem? hd,rfl⟩
 cases u with
 | dead=>cases h
 | box cs=>
  cases h with
  | box _ c hm hn=>
   obtain ⟨d,hd,rfl⟩:=mem hm
   obtain ⟨h1,h2⟩:=fD him hn
   exact ⟨.box _ d hd h1,h2⟩
 | arr n sz get T=>
  cases h with
  | arr _ _ _ _ j c hj hm hn=>
   obtain ⟨d,hd,rfl⟩:=mem hm
   obtain ⟨h1,h2⟩:=fD him hn
   exact ⟨.arr _ _ _ _ j d hj hd h1,h2⟩
 | map kvs=>
  cases h with
  | mapK _ k v hm hn=>
   obtain ⟨p,hp,he⟩:=List.mem_map.1 hm
   simp only [Prod.mk.injEq] at he
   obtain ⟨rfl,rfl⟩:=he
   obtain ⟨h1,h2⟩:=fD him hn
   exact ⟨.mapK _ p.1 p.2 hp h1,h2⟩
  | mapV _ k v hm hn=>
   obtain ⟨p,hp,he⟩:=List.mem_map.1 hm
   simp only [Prod.mk.injEq] at he
   obtain ⟨rfl,rfl⟩:=he
   obtain ⟨h1,h2⟩:=fD him hn
   exact ⟨.mapV _ p.1 p.2 hp h1,h2⟩
 | lrec st pe ks cs ps assign body nt=>
  cases h with
  | lrec _ _ _ _ _ _ _ _ c hm hn=>
   obtain ⟨d,hd,rfl⟩:=mem hm
   obtain ⟨h1,h2⟩:=fD him hn
   exact ⟨.lrec _ _ _ _ _ _ _ _ d hd h1,h2⟩
def frzE (id:Nat) (ob:LObj):List (Nat × AV) -> List (Nat × AV)
 | []=>[]
 | (k,v) :: r=>(k,frzV id ob v) :: frzE id ob r
def tf (id:Nat) (ob:LObj):List (Nat × Option LObj) -> List (Nat × Option LObj)
 | []=>[]
 | (j,u) :: r=>(j,bif Nat.beq j id then none else (match u with | some u=>some (frzO id ob u) | none=>none)) :: tf id ob r
def ny (id:Nat) (ob:LObj):List (Nat × AV) -> Prop
 | []=>True
 | (_,v) :: r=>frzC id ob v/\ny id ob r
def gM (id:Nat) (ob:LObj):List (Nat × Option LObj) -> Prop
 | []=>True
 | (_,some u) :: r=>Ct id ob u/\gM id ob r
 | (_,none) :: r=>gM id ob r
theorem oX {id:Nat} {ob:LObj}:∀ {l:List (Nat × AV)} {k:Nat} {v:AV},luS (frzE id ob l) k = some v -> ∃ u,luS l k = some u/\v = frzV id ob u
 | [],k,v,h=>by simp [frzE,luS] at h
 | (k0,u0) :: r,k,v,h=>by
  simp only [frzE,luS,aJ] at h ⊢
  split at h
  ·rename_i hk
   rw [if_pos hk]
   simp only [Option.some.injEq] at h
   exact ⟨u0,rfl,h.symm⟩
  ·rename_i hk
   rw [if_neg hk]
   exact oX h
theorem rd {id:Nat} {ob:LObj}:∀ {l:List (Nat × AV)} {k:Nat} {u:AV},ny id ob l -> luS l k = some u -> frzC id ob u
 | [],k,u,_,h=>by simp [luS] at h
 | (k0,u0) :: r,k,u,hc,h=>by
  simp only [luS,aJ] at h
  split at h
  ·simp only [Option.some.injEq] at h;subst h;exact hc.1
  ·exact rd hc.2 h
theorem lK {id:Nat} {ob:LObj}:∀ {l:List (Nat × Option LObj)} {j:Nat},luB (tf id ob l) j = if j = id then none else (luB l j).map (frzO id ob)
 | [],j=>by simp [tf,luB]
 | (j0,u0) :: r,j=>by
  simp only [tf,luB,aJ]
  by_cases hj:j = j0
  ·subst hj
   simp only [if_true]
   split
   ·rfl
   ·cases u0<;>rfl
  ·simp only [hj,if_false]
   exact lK
theorem kg {id:Nat} {ob:LObj}:∀ {l:List (Nat × Option LObj)} {j:Nat} {u:LObj},gM id ob l -> luB l j = some u -> Ct id ob u
 | [],j,u,_,h=>by simp [luB] at h
 | (j0,some u0) :: r,j,u,hc,h=>by
  simp only [luB,aJ] at h
  split at h
  ·simp only [Option.some.injEq] at h;subst h;exact hc.1
  ·exact kg hc.2 h
 | (j0,none) :: r,j,u,hc,h=>by
  simp only [luB,aJ] at h
  split at h
  ·cases h
  ·exact kg (l:=r) hc h
def St.frz (A:St) (id:Nat) (ob:LObj):St:=⟨frzE id ob A.env,tf id ob A.objs⟩
theorem jl {X:Frm} {A:St} (id:Nat) {ob:LObj} (hob:luB A.objs id = some ob) (hp:X.pid.elem id = false) (him:imOf ob) (hc:ny id ob A.env) (hoc:gM id ob A.objs):Ghost X A (A.frz id ob):=by
 refine ⟨?_⟩
 rintro a w ⟨ρ,Im,hr⟩
 have hoo:=hr.objs id ob hob
 have hlive:ob.live = true:=by cases ob<;>first|rfl|exact him.elim
 have hO:∀ j u,(A.frz id ob).o j = some u -> j ≠ id/\∃ u0,A.o j = some u0/\u = frzO id ob u0:=by
  intro j u h
  have h:luB (tf id ob A.objs) j = some u:=h
  rw [lK] at h
  split at h
  ·cases h
  ·rename_i hj
   obtain ⟨u0,h1,h2⟩:=Option.map_eq_some_iff.1 h
   exact ⟨hj,u0,h1,h2.symm⟩
 have hal:∀ j,A.o j ≠ none -> j ≠ id -> (A.frz id ob).o j ≠ none:=by
  intro j h hj
  show luB (tf id ob A.objs) j ≠ none
  rw [lK,if_neg hj]
  obtain ⟨u,hu⟩:=Option.ne_none_iff_exists'.1 h
  rw [show luB A.objs j = some u from hu]
  simp
 refine ⟨ρ,fun b=>Im b \/ (ρ id).1 = some b,
  {objs:=fun j u hj=>?_,own:=fun j u b hj hl hb=>?_,inj:=fun j j' u u' b h1 h2 h3 h4 h5 h6=>?_,ocl:=fun j u hj i hi=>?_,imlt:=fun b hb=>?_,im0:=fun b hb=>.inl (hr.im0 b hb),imf:=fun b hb=>?_,
   os:=hr.os,tape:=hr.tape,output:=hr.output,size:=hr.size,frame:=hr.frame,pin:=fun j hj=>?_,slots:=fun k v hv=>?_,scl:=fun k v hv i hi=>?_,nt:=hr.nt,lrc:=hr.lrc,rnd:=hr.rnd,
   defers:=hr.defers.mono (fun _ _=>rfl) fun D hD hn hi=>hi.elim hn fun he=>(hoo.noSys hlive he).1 _ hD }⟩
 ·obtain ⟨_,u0,h0,rfl⟩:=hO j u hj
  exact uD hoo him (kg hoc h0) (hr.objs j u0 h0)
 ·obtain ⟨hne,u0,h0,rfl⟩:=hO j u hj
  rw [rc] at hl
  obtain ⟨h1,h2,h3⟩:=hr.own j u0 b h0 hl hb
  exact ⟨fun hi=>hi.elim h1 fun he=>hne (hr.inj j id u0 ob b h0 hl hob hlive hb he),h2,h3⟩
 ·obtain ⟨_,u0,h0,rfl⟩:=hO j u h1
  obtain ⟨_,u0',h0',rfl⟩:=hO j' u' h3
  rw [rc] at h2 h4
  exact hr.inj j j' u0 u0' b h0 h2 h0' h4 h5 h6
 ·obtain ⟨_,u0,h0,rfl⟩:=hO j u hj
  obtain ⟨h1,h2⟩:=wd him hi
  exact hal i (hr.ocl j u0 h0 i h1) h2
 ·rcases hb with hb | hb
  ·exact hr.imlt b hb
  ·exact (hr.own id ob b hob hlive hb).2.1
 ·rcases hb with hb | hb
  ·exact hr.imf b hb
  ·rcases (hr.own id ob b hob hlive hb).2.2 with h | h
   ·exact .inr (.inl h)
   ·rw [List.elem_eq_true_of_mem h] at hp;cases hp
 ·have hne:j ≠ id:=fun e=>by subst e;rw [List.elem_eq_true_of_mem hj] at hp;cases hp
  obtain ⟨h1,h2⟩:=hr.pin j hj
  exact ⟨h1,hal j h2 hne⟩
 ·obtain ⟨u,hu,rfl⟩:=oX hv
  obtain ⟨x,hx,hcx⟩:=hr.slots k u hu
  exact ⟨x,hx,d7 hoo him u x (rd hc hu) hcx⟩
 ·obtain ⟨u,hu,rfl⟩:=oX hv
  obtain ⟨h1,h2⟩:=fD him hi
  exact hal i (hr.scl k u hu i h1) h2
section
variable {P:Program} {X:Frm}
theorem eQ {c:Code} {A:St} {K:Exit -> St -> Prop} (id:Nat) {ob:LObj} (hob:luB A.objs id = some ob) (hp:X.pid.elem id = false) (him:imOf ob) (hc:ny id ob A.env) (hoc:gM id ob A.objs)
  (h:GoodS P X c (A.frz id ob) K):GoodS P X c A K:=fC (jl id hob hp him hc hoc) h
theorem cn {A:St} (k id sz T:Nat) (hk:luS A.env k = some .nils) (hid:luB A.objs id = none) (hp:X.pid.elem id = false):Ghost X A ⟨(k,.osl id 0) :: A.env,(id,some (.arr 0 sz (fun _=>[]) T)) :: A.objs⟩:=by
 refine ⟨?_⟩
 rintro a w ⟨ρ,Im,hr⟩
 have hne:∀ j,A.o j ≠ none -> j ≠ id:=fun j h e=>h (by rw [e];exact hid)
 have hρ:∀ j,A.o j ≠ none -> (ρ.set id (none,0)) j = ρ j:=fun j h=>Loc.set_ne _ _ (hne j h)
 have hO:∀ j,luB ((id,some (.arr 0 sz (fun _=>[]) T)) :: A.objs) j = if j = id then some (.arr 0 sz (fun _=>[]) T) else A.o j:=by
  intro j;exact oW _ _ _ _
 have hal:∀ j,A.o j ≠ none -> luB ((id,some (.arr 0 sz (fun _=>[]) T)) :: A.objs) j ≠ none:=by
  intro j h;rw [hO,if_neg (hne j h)];exact h
 refine ⟨ρ.set id (none,0),Im,
  {objs:=fun j u hj=>?_,own:=fun j u b hj hl hb=>?_,inj:=fun j j' u u' b h1 h2 h3 h4 h5 h6=>?_,ocl:=fun j u hj i hi=>?_,imlt:=hr.imlt,im0:=hr.im0,imf:=hr.imf,
   os:=hr.os,tape:=hr.tape,output:=hr.output,size:=hr.size,frame:=hr.frame,pin:=fun j hj=>?_,slots:=fun q v hv=>?_,scl:=fun q v hv i hi=>?_,defers:=hr.defers,nt:=hr.nt,lrc:=hr.lrc,rnd:=hr.rnd }⟩
 ·replace hj:luB ((id,some (.arr 0 sz (fun _=>[]) T)) :: A.objs) j = some u:=hj
  rw [hO] at hj
  split at hj
  ·rename_i e;subst e
   cases hj
   exact .arr0 _ _ _ (Loc.set_same _ _ _)
  ·exact (hr.objs j u hj).move (fun b hb=>hb) (fun _ _=>rfl) (fun _ _=>rfl) (hρ j (by rw [hj];simp)) fun i hi=>hρ i (hr.ocl j u hj i hi)
 ·replace hj:luB ((id,some (.arr 0 sz (fun _=>[]) T)) :: A.objs) j = some u:=hj
  rw [hO] at hj
  split at hj
  ·rename_i e;subst e;rw [Loc.set_same] at hb;cases hb
  ·rw [hρ j (by rw [hj];simp)] at hb
   exact hr.own j u b hj hl hb
 ·replace h1:luB ((id,some (.arr 0 sz (fun _=>[]) T)) :: A.objs) j = some u:=h1
  replace h3:luB ((id,some (.arr 0 sz (fun _=>[]) T)) :: A.objs) j' = some u':=h3
  rw [hO] at h1 h3
  split at h1
  ·rename_i e;subst e;rw [Loc.set_same] at h5;cases h5
  ·split at h3
   ·rename_i e;subst e;rw [Loc.set_same] at h6;cases h6
   ·rw [hρ j (by rw [h1];simp)] at h5
    rw [hρ j' (by rw [h3];simp)] at h6
    exact hr.inj j j' u u' b h1 h2 h3 h4 h5 h6
 ·replace hj:luB ((id,some (.arr 0 sz (fun _=>[]) T)) :: A.objs) j = some u:=hj
  rw [hO] at hj
  split at hj
  ·simp only [Option.some.injEq] at hj;subst hj
   cases hi with
   | arr _ _ _ _ _ _ hlt=>omega
  ·exact hal i (hr.ocl j u hj i hi)
 ·obtain ⟨h1,h2⟩:=hr.pin j hj
  exact ⟨by rw [hρ j h2];exact h1,hal j h2⟩
 ·replace hv:luS ((k,.osl id 0) :: A.env) q = some v:=hv
  rw [uC] at hv
  split at hv
  ·rename_i e;subst e
   cases hv
   obtain ⟨x,hx,hcx⟩:=hr.slots q _ hk
   cases hcx.nils_inv
   refine ⟨_,hx,?_⟩
   have:=Con.osl (ρ:=ρ.set id (none,0)) (Im:=Im) (H:=w.heap) id 0 (π _) (fun h=>absurd rfl h) (π _)
   rw [Loc.set_same] at this
   exact this
  ·obtain ⟨x,hx,hcx⟩:=hr.slots q v hv
   exact ⟨x,hx,hcx.reloc fun i hi=>hρ i (hr.scl q v hv i hi)⟩
 ·replace hv:luS ((k,.osl id 0) :: A.env) q = some v:=hv
  rw [uC] at hv
  split at hv
  ·simp only [Option.some.injEq] at hv;subst hv
   cases hi
   show luB ((id,some (.arr 0 sz (fun _=>[]) T)) :: A.objs) id ≠ none
   rw [hO,if_pos rfl];simp
  ·exact hal i (hr.scl q v hv i hi)
theorem iz {c:Code} {A:St} {K:Exit -> St -> Prop} (k id sz T:Nat) (hk:luS A.env k = some .nils) (hid:luB A.objs id = none) (hp:X.pid.elem id = false)
  (h:GoodS P X c ⟨(k,.osl id 0) :: A.env,(id,some (.arr 0 sz (fun _=>[]) T)) :: A.objs⟩ K):GoodS P X c A K:=fC (cn k id sz T hk hid hp) h
end
theorem we {X:Frm} {A:St} (bid ix id sz T:Nat) {cs:List AV} (hb:luB A.objs bid = some (.box cs)) (hk:cs[ix]? = some .nils) (hid:luB A.objs id = none) (hp:X.pid.elem id = false) :
  Ghost X A ⟨A.env,(bid,some (.box (cs.set ix (.osl id 0)))) :: (id,some (.arr 0 sz (fun _=>[]) T)) :: A.objs⟩:=by
 refine ⟨?_⟩
 rintro a w ⟨ρ,Im,hr⟩
 have hbi:bid ≠ id:=fun e=>by rw [e,hid] at hb;cases hb
 have hne:∀ j,A.o j ≠ none -> j ≠ id:=fun j h e=>h (by rw [e];exact hid)
 have hρ:∀ j,A.o j ≠ none -> (ρ.set id (none,0)) j = ρ j:=fun j h=>Loc.set_ne _ _ (hne j h)
 have hO:∀ j,luB ((bid,some (.box (cs.set ix (.osl id 0)))) :: (id,some (.arr 0 sz (fun _=>[]) T)) :: A.objs) j = if j = bid then some (.box (cs.set ix (.osl id 0))) else if j = id then some (.arr 0 sz (fun _=>[]) T) else A.o j:=by
  intro j;rw [oW,oW];rfl
 have hbn:A.o bid ≠ none:=by show luB A.objs bid ≠ none;rw [hb];simp
 have hal:∀ j,A.o j ≠ none -> luB ((bid,some (.box (cs.set ix (.osl id 0)))) :: (id,some (.arr 0 sz (fun _=>[]) T)) :: A.objs) j ≠ none:=by
  intro j h
  rw [hO]
  split
  ·simp
  ·rw [if_neg (hne j h)];exact h
 have hold:∀ {j:Nat} {u:LObj},luB ((bid,some (.box (cs.set ix (.osl id 0)))) :: (id,some (.arr 0 sz (fun _=>[]) T)) :: A.objs) j = some u -> (j = bid/\u = .box (cs.set ix (.osl id 0))) \/ (j = id/\u = .arr 0 sz (fun _=>[]) T) \/ (j ≠ bid/\j ≠ id/\A.o j = some u):=by
  intro j u h
  rw [hO] at h
  split at h
  ·rename_i e;cases h;exact .inl ⟨e,rfl⟩
  ·split at h
   ·rename_i e;cases h;exact .inr (.inl ⟨e,rfl⟩)
   ·rename_i e1 e2;exact .inr (.inr ⟨e1,e2,h⟩)
 have hbo:=hr.objs bid _ hb
 have hlive:∀ {j:Nat} {u:LObj},luB ((bid,some (.box (cs.set ix (.osl id 0)))) :: (id,some (.arr 0 sz (fun _=>[]) T)) :: A.objs) j = some u -> u.live = true -> ∀ b,((ρ.set id (none,0)) j).1 = some b -> ∃ u0,A.o j = some u0/\u0.live = true/\(ρ j).1 = some b:=by
  intro j u h hl b hbb
  rcases hold h with ⟨rfl,rfl⟩ | ⟨rfl,rfl⟩ | ⟨_,h2,h3⟩
  ·rw [hρ _ hbn] at hbb;exact ⟨_,hb,rfl,hbb⟩
  ·rw [Loc.set_same] at hbb;cases hbb
  ·rw [Loc.set_ne _ _ h2] at hbb;exact ⟨u,h3,hl,hbb⟩
 have hnm:∀ {i:Nat},NamesO i (.box (cs.set ix (.osl id 0))) -> i = id \/ NamesO i (.box cs):=by
  intro i hi
  cases hi with
  | box _ c hm hn=>
   rcases List.mem_or_eq_of_mem_set hm with hm|rfl
   ·exact .inr (.box _ c hm hn)
   ·cases hn;exact .inl rfl
 have hidn:luB ((bid,some (.box (cs.set ix (.osl id 0)))) :: (id,some (.arr 0 sz (fun _=>[]) T)) :: A.objs) id ≠ none:=by
  rw [hO,if_neg (Ne.symm hbi),if_pos rfl];simp
 refine ⟨ρ.set id (none,0),Im,
  {objs:=fun j u hj=>?_,own:=fun j u b hj hl hbb=>?_,inj:=fun j j' u u' b h1 h2 h3 h4 h5 h6=>?_,ocl:=fun j u hj i hi=>?_,imlt:=hr.imlt,im0:=hr.im0,imf:=hr.imf,
   os:=hr.os,tape:=hr.tape,output:=hr.output,size:=hr.size,frame:=hr.frame,pin:=fun j hj=>?_,slots:=fun q v hv=>?_,scl:=fun q v hv i hi=>?_,defers:=hr.defers,nt:=hr.nt,lrc:=hr.lrc,rnd:=hr.rnd }⟩
 ·rcases hold hj with ⟨rfl,rfl⟩ | ⟨rfl,rfl⟩ | ⟨_,h2,h3⟩
  ·cases hbo with
   | box _ b xs e h1 h2 h3=>
    refine .box _ b xs e (by rw [hρ _ hbn];exact h1) h2 ⟨by rw [h3.1];simp,fun i c x hc hx=>?_⟩
    by_cases hi:ix = i
    ·subst hi
     rw [List.getElem?_set_self (List.getElem?_eq_some_iff.1 hk).1] at hc
     cases hc
     have:=h3.2 ix _ x hk hx
     cases this.nils_inv
     have h4:=Con.osl (ρ:=ρ.set id (none,0)) (Im:=Im) (H:=w.heap) id 0 (π _) (fun h=>absurd rfl h) (π _)
     rw [Loc.set_same] at h4
     exact h4
    ·rw [List.getElem?_set_ne hi] at hc
     exact (h3.2 i c x hc hx).reloc fun k hk=>hρ k (hr.ocl _ _ hb k (.box _ c (List.mem_of_getElem? hc) hk))
  ·exact .arr0 _ _ _ (Loc.set_same _ _ _)
  ·exact (hr.objs j u h3).move (fun b hb=>hb) (fun _ _=>rfl) (fun _ _=>rfl) (Loc.set_ne _ _ h2) fun i hi=>hρ i (hr.ocl j u h3 i hi)
 ·obtain ⟨u0,h1,h2,h3⟩:=hlive hj hl b hbb
  exact hr.own j u0 b h1 h2 h3
 ·obtain ⟨u0,g1,g2,g3⟩:=hlive h1 h2 b h5
  obtain ⟨u1,k1,k2,k3⟩:=hlive h3 h4 b h6
  exact hr.inj j j' u0 u1 b g1 g2 k1 k2 g3 k3
 ·show luB _ i ≠ none
  rcases hold hj with ⟨rfl,rfl⟩ | ⟨rfl,rfl⟩ | ⟨_,h2,h3⟩
  ·rcases hnm hi with rfl | hi
   ·exact hidn
   ·exact hal i (hr.ocl _ _ hb i hi)
  ·cases hi with
   | arr _ _ _ _ _ _ hlt=>omega
  ·exact hal i (hr.ocl j u h3 i hi)
 ·obtain ⟨h1,h2⟩:=hr.pin j hj
  exact ⟨by rw [hρ j h2];exact h1,hal j h2⟩
 ·obtain ⟨x,hx,hcx⟩:=hr.slots q v hv
  exact ⟨x,hx,hcx.reloc fun i hi=>hρ i (hr.scl q v hv i hi)⟩
 ·exact hal i (hr.scl q v hv i hi)
theorem dQ {P:Program} {X:Frm} {c:Code} {A:St} {K:Exit -> St -> Prop} (bid ix id sz T:Nat) {cs:List AV} (hb:luB A.objs bid = some (.box cs)) (hk:cs[ix]? = some .nils) (hid:luB A.objs id = none) (hp:X.pid.elem id = false)
  (h:GoodS P X c ⟨A.env,(bid,some (.box (cs.set ix (.osl id 0)))) :: (id,some (.arr 0 sz (fun _=>[]) T)) :: A.objs⟩ K):GoodS P X c A K:=fC (we bid ix id sz T hb hk hid hp) h
theorem cB (n:Nat) (v:LObj) (r:List (Nat × LObj)) (k:Nat):luL ((n,v) :: r) k = if k = n then some v else luL r k:=by
 show (bif Nat.beq k n then _ else _) = _
 rw [aJ]
theorem CallSpec.thawR {P:Program} {f:FuncId} {as1 as2:List AV} {ins outs:List (Nat × LObj)} {r:AV} (id:Nat) {m sz T:Nat} {get':Nat -> List AV} (h:CallSpec P f as1 ins r outs) (him:∀ i,i < m -> nmL [] (get' i) = true) (hi1:luL ins id = none) (hi2:luL outs id = none)
  (hrel:∀ (ρ:Loc) (Im:Nat -> Prop) (H:Heap) (xs:Array Value),ObjCon ρ Im H id (.arr m sz get' T) -> Cons ρ Im H as2 xs -> Cons ρ (fun b=>Im b \/ (ρ id).1 = some b) H as1 xs):CallSpec P f as2 ((id,.arr m sz get' T) :: ins) r ((id,.dead) :: outs):=by
 have hnin:id ∉ ins.map (·.1):=fun hm=>bR.2 hm hi1
 have hcons:∀ {o:List (Nat × LObj)} {v:LObj} {i:Nat},luL o i ≠ none -> luL ((id,v) :: o) i ≠ none:=by
  intro o v i hn
  rw [cB]
  split
  ·simp
  ·exact hn
 have hnn:∀ i,¬ NamesO i (.arr m sz get' T):=by
  intro i hn
  cases hn with
  | arr _ _ _ _ j c hj hm hn=>exact absurd (cj hn (cM (him j hj) c hm)) η
 have hself:∀ (v:LObj) (o:List (Nat × LObj)),luL ((id,v) :: o) id ≠ none:=by
  intro v o;rw [cB,if_pos rfl];simp
 refine ⟨h.enter,fun j ob hj i hi=>?_,fun j ob hj=>?_,fun w ρ Im xs hmem hx=>?_⟩
 ·rw [cB] at hj
  split at hj
  ·cases hj;exact absurd hi (hnn i)
  ·exact hcons (h.icl j ob hj i hi)
 ·rw [cB] at hj
  split at hj
  ·cases hj;rfl
  ·exact h.live j ob hj
 ·have hob:luL ((id,.arr m sz get' T) :: ins) id = some (.arr m sz get' T):=by rw [cB,if_pos rfl]
  have hin:∀ {j:Nat} {u:LObj},luL ins j = some u -> j ≠ id/\luL ((id,.arr m sz get' T) :: ins) j = some u:=by
   intro j u hj
   have hne:j ≠ id:=fun e=>by rw [e,hi1] at hj;cases hj
   exact ⟨hne,by rw [cB,if_neg hne];exact hj⟩
  have hoo:=hmem.objs id _ hob
  have hm1:Mem (bU w (fun b=>Im b \/ (ρ id).1 = some b) ins ρ 0) ρ (fun b=>Im b \/ (ρ id).1 = some b) (luL ins) w :=
   {objs:=fun j u hj=>(hmem.objs j u (hin hj).2).move (fun b hb=>.inl hb) (fun _ _=>rfl) (fun _ _=>rfl) rfl (fun _ _=>rfl)
    own:=fun j u b hj hl hb=>by
     obtain ⟨h1,h2,h3⟩:=hmem.own j u b (hin hj).2 hl hb
     refine ⟨fun hi=>hi.elim h1 fun he=>(hin hj).1 (hmem.inj j id u _ b (hin hj).2 hl hob rfl hb he),h2,.inr (bR.1 (by rw [hj];simp))⟩
    inj:=fun j j' u u' b h1 h2 h3 h4 h5 h6=>hmem.inj j j' u u' b (hin h1).2 h2 (hin h3).2 h4 h5 h6
    ocl:=h.icl
    imlt:=fun b hb=>hb.elim (hmem.imlt b) fun he=>(hmem.own id _ b hob rfl he).2.1
    im0:=fun b hb=>hb,imf:=fun b hb=>.inl hb
    os:=rfl,tape:=rfl,output:=rfl,size:=ξ _,frame:=fun _ _ _=>rfl,pin:=fun j hj=>⟨rfl,bR.2 hj⟩,lrc:=fun l r h=>⟨r.state,r.pending,h⟩,rnd:=fun l h=>by cases h }
  have hx1:=hrel ρ Im w.heap xs hoo hx
  refine (h.calls w ρ _ xs hm1 hx1).mono fun e w'=>?_
  rintro ⟨y,ρ',Im',rfl,hc,hn,hm⟩
  have hout:∀ {i:Nat},luL outs i ≠ none -> i ≠ id:=fun hi e=>hi (by rw [e];exact hi2)
  have hρ:∀ {i:Nat},i ≠ id -> (if i = id then ρ id else ρ' i) = ρ' i:=fun hi=>if_neg hi
  have hin2:∀ {j:Nat} {u:LObj},luL ((id,.dead) :: outs) j = some u -> (j = id/\u = .dead) \/ (j ≠ id/\luL outs j = some u):=by
   intro j u hj
   rw [cB] at hj
   split at hj
   ·rename_i he;cases hj;exact .inl ⟨he,rfl⟩
   ·rename_i he;exact .inr ⟨he,hj⟩
  refine ⟨y,fun i=>if i = id then ρ id else ρ' i,Im',rfl,hc.reloc fun i hi=>hρ (hout (hn i hi)),fun i hi=>hcons (hn i hi),?_⟩
  exact
   {objs:=fun j u hj=>by
     rcases hin2 hj with ⟨_,rfl⟩ | ⟨hne,hj⟩
     ·exact .dead
     ·exact (hm.objs j u hj).move (fun b hb=>hb) (fun _ _=>rfl) (fun _ _=>rfl) (hρ hne) fun i hi=>hρ (hout (hm.ocl j u hj i hi))
    own := fun j u b hj hl hb=>by
     rcases hin2 hj with ⟨_,rfl⟩ | ⟨hne,hj⟩
     ·cases hl
     ·simp only [hρ hne] at hb
      obtain ⟨h1,h2,h3⟩:=hm.own j u b hj hl hb
      exact ⟨h1,h2,h3.imp (fun h=>h) fun h=>List.mem_cons_of_mem _ h⟩
    inj := fun j j' u u' b h1 h2 h3 h4 h5 h6=>by
     rcases hin2 h1 with ⟨_,rfl⟩ | ⟨hne,h1⟩
     ·cases h2
     ·rcases hin2 h3 with ⟨_,rfl⟩ | ⟨hne',h3⟩
      ·cases h4
      ·simp only [hρ hne] at h5
       simp only [hρ hne'] at h6
       exact hm.inj j j' u u' b h1 h2 h3 h4 h5 h6
    ocl:=fun j u hj i hi=>by
     rcases hin2 hj with ⟨_,rfl⟩ | ⟨hne,hj⟩
     ·cases hi
     ·exact hcons (hm.ocl j u hj i hi)
    imlt:=hm.imlt,im0:=fun b hb=>hm.im0 b (.inl hb)
    imf := fun b hb=>by
     rcases hm.imf b hb with h1 | h1 | ⟨j,h1,h2⟩
     ·rcases h1 with h1 | h1
      ·exact .inl h1
      ·exact .inr (.inr ⟨id,List.mem_cons_self,h1⟩)
     ·exact .inr (.inl h1)
     ·exact .inr (.inr ⟨j,List.mem_cons_of_mem _ h1,h2⟩)
    os:=hm.os,tape:=hm.tape,output:=hm.output,size:=hm.size
    frame:=fun b hb hp=>hm.frame b hb fun i hi=>hp i (List.mem_cons_of_mem _ hi)
    pin := fun j hj=>by
     rcases List.mem_cons.1 hj with rfl | hj
     ·exact ⟨if_pos rfl,hself _ _⟩
     ·have hne:j ≠ id:=fun e=>hnin (e ▸ hj)
      exact ⟨(hρ hne).trans (hm.pin j hj).1,hcons (hm.pin j hj).2⟩
    lrc:=hm.lrc,rnd:=hm.rnd }
theorem CallSpec.thaw {P:Program} {f:FuncId} {us vs:List AV} {ins outs:List (Nat × LObj)} {r:AV} (id:Nat) {n m sz T:Nat} {get get':Nat -> List AV} (h:CallSpec P f (us ++ .isl n sz get :: vs) ins r outs) (hnm:n <= m) (hg:∀ i,i < n -> get' i = get i) (him:∀ i,i < m -> nmL [] (get' i) = true)
  (hi1:luL ins id = none) (hi2:luL outs id = none):CallSpec P f (us ++ .osl id n :: vs) ((id,.arr m sz get' T) :: ins) r ((id,.dead) :: outs):=by
 refine h.thawR id him hi1 hi2 fun ρ Im H xs hoo hx=>?_
 refine ⟨by rw [hx.1];simp,fun i c x hc hxi=>?_⟩
 by_cases hu:i < us.length
 ·rw [List.getElem?_append_left hu] at hc
  exact (hx.2 i c x (by rw [List.getElem?_append_left hu];exact hc) hxi).mono (fun b hb=>.inl hb) fun _ _=>rfl
 ·by_cases he:i = us.length
  ·subst he
   simp only [List.getElem?_append_right (ξ _),Nat.sub_self,List.getElem?_cons_zero,Option.some.injEq] at hc
   subst hc
   have h1:=hx.2 us.length (.osl id n) x η hxi
   have h2:=d7 hoo him (.osl id n) x (by simp only [frzC,Nat.beq_refl];exact hnm) h1
   simp only [frzV,Nat.beq_refl,cond_true] at h2
   exact (Ξ rfl hg).con _ _ _ _ h2
  ·obtain ⟨k,rfl⟩:∃ k,i = us.length + (k + 1):=⟨i - us.length - 1,ω⟩
   have hc':vs[k]? = some c:=by
    rw [List.getElem?_append_right ω] at hc
    simpa using hc
   refine (hx.2 _ c x ?_ hxi).mono (fun b hb=>.inl hb) fun _ _=>rfl
   rw [List.getElem?_append_right ω]
   simpa using hc'
theorem CallSpec.arg {P:Program} {f:FuncId} {us vs:List AV} {ins outs:List (Nat × LObj)} {r:AV} (hle:AvsLe us vs) (h:CallSpec P f vs ins r outs):CallSpec P f us ins r outs :=
 ⟨h.enter,h.icl,h.live,fun w ρ Im xs hm hx=>h.calls w ρ Im xs hm ⟨by rw [hx.1,hle.length],fun i c x h1 h2=>by
  obtain ⟨u,hu,hl⟩:=hle.get i c h1
  exact hl.con _ _ _ _ (hx.2 i u x hu h2)⟩⟩
end Go.Nc
