/- The runs of X3 are right. -/
import Derived.Test.YtdkcmppdckkofaaGreatNcX3
import Derived.Scope
namespace Go.Nc
section
variable {P:Program} {X:Frm} {C:Ctx}
theorem o0 (hT:bS P C.T) (hM:MOk P C.MT) {ops:Array Oper} {op:Oper} {A:XS} {D:XD} {h:FuncId -> List AV -> Option XR} (hh:HOk P A.objs.get h) (he:(xopG C X.nt ops op).f X.pid h A.env.get A.objs.get A.nx = some D) :
  aQ P X ops op A.env.get A.objs.get (effV ops op (rsOf op) D.ro D.v D.wo):=by
 obtain ⟨env,henv⟩:=Tr.env A.env
 obtain ⟨objs,hobjs⟩:=Tr.objs A.objs
 have es:(St.mk env objs).s = A.env.get:=henv
 have eo:(St.mk env objs).o = A.objs.get:=hobjs
 rw [<- es,<- eo] at he ⊢
 rw [<- eo] at hh
 generalize St.mk env objs = B at *
 unfold xopG at he
 split at he
 ·rename_i hd
  have hd:=uO hd
  split at he
  ·rename_i hg
   exact oy hT hM hh (by unfold gOk;rw [hg];trivial) hd he
  ·rename_i j want hg
   split at he
   ·rename_i p hp
    split at he
    ·rename_i t ht
     change (match B.s t with
      | some (.bool b)=>match b == want with
       | true=>(xop1 C.T C.MT op).f X.pid h B.s B.o A.nx
       | false=>some ⟨[],.tup [],[],A.nx⟩
      | some (.tup [])=>some ⟨[],.tup [],[],A.nx⟩
      | _=>none) = some D at he
     split at he
     ·rename_i b hb
      split at he
      ·rename_i hbw
       have:b = want:=by simpa using hbw
       subst this
       exact oy hT hM hh (by unfold gOk;simp only [hg,hp,ht];exact hb) hd he
      ·rename_i hbw
       simp only [Option.some.injEq] at he
       subst he
       exact dZ (ii hg hp ht (.inl ⟨hb,by simpa using hbw⟩) hd) (by intro i hi;simp at hi)
     ·rename_i hb
      simp only [Option.some.injEq] at he
      subst he
      exact dZ (ii (b:=true) hg hp ht (.inr hb) hd) (by intro i hi;simp at hi)
     ·cases he
    ·exact (a6 he).elim
   ·exact (a6 he).elim
 ·exact (a6 he).elim
def yr (P:Program) (h:Hnd):Prop:=∀ A,HOk P A.objs.get (h A)
theorem o8 (hT:bS P C.T) (hM:MOk P C.MT) {ops:Array Oper} {h:Hnd} (hh:yr P h):∀ (l:List Oper) (A B:XS),xops C X.pid X.nt h ops l A = some B ->
  (∃ L:List (Oper × Eff),L.map (·.1) = l/\nE P X ops L A.env.get A.objs.get/\B.env.get = finS L A.env.get/\B.objs.get = finO L A.objs.get)/\Wr A B
 | [],A,B,he=>by
  simp only [xops,Option.some.injEq] at he
  subst he
  exact ⟨⟨[],rfl,trivial,rfl,rfl⟩,Wr.refl _⟩
 | op :: r,A,B,he=>by
  simp only [xops] at he
  split at he
  ·rename_i D hD
   split at he
   ·rename_i A' hA
    have hs:=o0 hT hM (hh A) hD
    obtain ⟨e1,e2,hw⟩:=XS.app_spec (ops:=ops) (rs:=rsOf op) hA
    obtain ⟨⟨L,h1,h2,h3,h4⟩,hw'⟩:=o8 hT hM hh r A' B he
    rw [e1,e2] at h2
    rw [e1] at h3
    rw [e2] at h4
    exact ⟨⟨(op,effV ops op (rsOf op) D.ro D.v D.wo) :: L,by simp [h1],⟨hs,h2⟩,h3,h4⟩,hw.trans hw'⟩
   ·cases he
  ·cases he
def OB (ops:Array Oper) (i:Nat) (ro ok:List Nat) (q:Nat × Oper × Eff):Prop:=mn ro ok q.2.2.ro q.2.2.ok = true \/ lP ops ops.size q.1 i = true
theorem rI {ops:Array Oper} {j:Nat} {ro ok:List Nat}:∀ {acc:List (Nat × List Nat × List Nat)},chkO ops j ro ok acc = true -> ∀ p ∈ acc,mn p.2.1 p.2.2 ro ok = true \/ lP ops ops.size j p.1 = true
 | [],_,p,hp=>by simp at hp
 | (i,ro',ok') :: r,h,p,hp=>by
  simp only [chkO] at h
  split at h
  ·rename_i hb
   rcases List.mem_cons.1 hp with rfl | hp
   ·simpa [Bool.or_eq_true] using hb
   ·exact rI h p hp
  ·cases h
theorem wD (l:List Nat):disj [] l = true:=rfl
theorem wE (l:List Nat):disj l [] = true:=by simp [disj]
theorem mq (hT:bS P C.T) (hM:MOk P C.MT) {ops:Array Oper} {h:Hnd} (hh:yr P h):∀ (l:List Oper) (i:Nat) (A B:XS) (acc:List (Nat × List Nat × List Nat)),wC C X.pid X.nt h ops l i A acc = some B ->
  (∃ L:List (Nat × Oper × Eff),L.map (·.2.1) = l/\L.map (·.1) = List.range' i l.length/\nE P X ops (L.map (·.2)) A.env.get A.objs.get/\B.env.get = finS (L.map (·.2)) A.env.get/\B.objs.get = finO (L.map (·.2)) A.objs.get /\
   (∀ p ∈ acc,∀ q ∈ L,OB ops p.1 p.2.1 p.2.2 q)/\L.Pairwise (fun p q=>OB ops p.1 p.2.2.ro p.2.2.ok q)/\∀ q ∈ L,∃ D:XD,q.2.2 = effV ops q.2.1 (rsOf q.2.1) D.ro D.v D.wo)/\Wr A B
 | [],i,A,B,acc,he=>by
  simp only [wC,Option.some.injEq] at he
  subst he
  exact ⟨⟨[],rfl,rfl,trivial,rfl,rfl,fun _ _ q hq=>by simp at hq,.nil,fun q hq=>by simp at hq⟩,Wr.refl _⟩
 | op :: r,i,A,B,acc,he=>by
  simp only [wC] at he
  split at he
  ·rename_i D hD
   split at he
   ·rename_i hc
    split at he
    ·rename_i A' hA
     have hs:=o0 hT hM (hh A) hD
     obtain ⟨e1,e2,hw⟩:=XS.app_spec (ops:=ops) (rs:=rsOf op) hA
     obtain ⟨⟨L,h1,h1',h2,h3,h4,h5,h6,h7⟩,hw'⟩:=mq hT hM hh r (i + 1) A' B _ he
     rw [e1,e2] at h2
     rw [e1] at h3
     rw [e2] at h4
     refine ⟨⟨(i,op,effV ops op (rsOf op) D.ro D.v D.wo) :: L,by simp [h1],by simp [h1',List.range'_succ],⟨hs,h2⟩,h3,h4,fun p hp q hq=>?_,List.Pairwise.cons (fun q hq=>?_) h6,fun q hq=>?_⟩,hw.trans hw'⟩
     ·rcases List.mem_cons.1 hq with rfl | hq
      ·exact rI hc p hp
      ·refine h5 p ?_ q hq
       unfold AC
       split
       ·exact hp
       ·exact List.mem_cons_of_mem _ hp
     ·have hem:AC i D.ro (D.wo.map (·.1)) acc = (i,D.ro,D.wo.map (·.1)) :: acc \/ (D.ro = []/\D.wo.map (·.1) = []):=by
       unfold AC
       split
       ·rename_i h1 h2;exact .inr ⟨h1,h2⟩
       ·exact .inl rfl
      rcases hem with hem | ⟨hro,hok⟩
      ·exact h5 (i,D.ro,D.wo.map (·.1)) (by rw [hem];simp) q hq
      ·refine .inl ?_
       show mn D.ro (D.wo.map (·.1)) _ _ = true
       rw [hro,hok]
       simp [mn,wD,wE]
     ·rcases List.mem_cons.1 hq with rfl | hq
      ·exact ⟨D,rfl⟩
      ·exact h7 q hq
    ·cases he
   ·cases he
  ·cases he
theorem o9 {ops:Array Oper}:∀ (L:List (Nat × Eff)),L.Pairwise (fun p q=>pn p.2 q.2 = true \/ lP ops ops.size q.1 p.1 = true) -> cz ops L = true
 | [],_=>rfl
 | (i,E) :: r,h=>by
  rw [List.pairwise_cons] at h
  simp only [cz,Bool.and_eq_true,List.all_eq_true,Bool.or_eq_true]
  exact ⟨fun q hq=>h.1 q hq,o9 r h.2⟩
theorem BK {ops:Array Oper} {op:Oper} {rs ro:List Nat} {v:AV} {wo:List (Nat × Option LObj)}:(effV ops op rs ro v wo).wk = op.dst.toList:=by
 unfold Eff.wk effV
 cases op.dst<;>rfl
theorem AE {ops:Array Oper} {p q:Oper} {D D':XD} (h1:yp ops p q = true) (h2:mn D.ro (D.wo.map (·.1)) D'.ro (D'.wo.map (·.1)) = true) :
  pn (effV ops p (rsOf p) D.ro D.v D.wo) (effV ops q (rsOf q) D'.ro D'.v D'.wo) = true:=by
 simp only [yp,mn,Bool.and_eq_true] at h1 h2
 obtain ⟨⟨a,b⟩,c⟩:=h1
 obtain ⟨⟨d,e⟩,f⟩:=h2
 unfold pn
 rw [BK,BK]
 simp only [Bool.and_eq_true]
 exact ⟨⟨⟨⟨⟨a,b⟩,c⟩,d⟩,e⟩,f⟩
def RunX (P:Program) (X:Frm) (c:Code) (A:XS) (e:Exit) (B:XS):Prop:=∀ a w,Rel X A.env.get A.objs.get a w -> c.wpIn (rf X.w0.ro) 0 P (fun e' a' w'=>e' = e/\Rel X B.env.get B.objs.get a' w') a w
def RunL (P:Program) (X:Frm) (c:Code) (A:XS) (e:Exit) (B:XS):Prop:=∀ a w,Rel X A.env.get A.objs.get a w -> ∀ (b:Frame) (k:List Item) (cs:List Frame),b.roundOf = (rf X.w0.ro).round -> (rf X.w0.ro).fn b.fn -> (rf X.w0.ro).room (cs.length + 1 + 0) ->
 ∃ e' a' w',(e' = e/\Rel X B.env.get B.objs.get a' w')/\ArrivesIn (Machine.fenced P (rf X.w0.ro)) P (lone (b.atR a (.code c :: .inLoop c :: k)) cs w) b k cs e' a' w'
theorem mr (hT:bS P C.T) (hM:MOk P C.MT) {ops:Array Oper} {id:Nat} {h:Hnd} (hh:yr P h) {A B:XS} (he:xops C X.pid X.nt h ops ops.toList A = some B):RunX P X (.region id ops false) A .normal B/\Wr A B:=by
 obtain ⟨⟨L,h1,h2,h3,h4⟩,hw⟩:=o8 hT hM hh _ _ _ he
 refine ⟨fun a w hr=>wpIn_region ?_,hw⟩
 have hlen:L.length = ops.size:=by
  have:=congrArg List.length h1
  simpa using this
 have:=da (P:=P) (Q:=fun e' a' w'=>e' = Exit.normal/\Rel X B.env.get B.objs.get a' w') L 0 _ _ a w (fun j=>by
  have:=congrArg (fun l=>l[j]?) h1
  simpa using this) h2 hr (fun a' w' hr'=>⟨rfl,by rw [h3,h4];exact hr'⟩)
 rw [hlen,<- List.range_eq_range'] at this
 exact this
theorem kX (hm:P.follows .mixedOrders = true) (hT:bS P C.T) (hM:MOk P C.MT) {ops:Array Oper} {id:Nat} {h:Hnd} (hh:yr P h) {A B:XS} (hok:Cq ops = true) (he:wC C X.pid X.nt h ops ops.toList 0 A [] = some B):RunX P X (.region id ops true) A .normal B/\Wr A B:=by
 obtain ⟨⟨L,h1,h1',h2,h3,h4,_,h6,h7⟩,hw⟩:=mq hT hM hh _ _ _ _ _ he
 refine ⟨fun a w hr=>wpIn_region_any hm ?_,hw⟩
 simp only [Cq,Bool.and_eq_true,List.all_eq_true,List.mem_range] at hok
 obtain ⟨hb,hst⟩:=hok
 have hlen:L.length = ops.size:=by
  have:=congrArg List.length h1
  simpa using this
 have hidx:∀ j (hj:j < L.length),(L[j]).1 = j:=by
  intro j hj
  have:=congrArg (fun l=>l[j]?) h1'
  simp [hj] at this
  have h2:=this
  rw [List.getElem?_eq_getElem (by simp;omega)] at h2
  simpa using h2
 have hop:∀ j (hj:j < L.length),ops[j]? = some (L[j]).2.1:=by
  intro j hj
  have:=congrArg (fun l=>l[j]?) h1
  simp [hj] at this
  exact this.symm
 have hpairs:cz ops (L.map fun p=>(p.1,p.2.2)) = true:=by
  refine o9 _ ?_
  rw [List.pairwise_map]
  rw [List.pairwise_iff_getElem] at h6 ⊢
  intro i j hi hj hij
  have ho:=h6 i j hi hj hij
  have hs:=hst j (by omega) i hij
  simp only [hop i hi,hop j hj,Bool.or_eq_true] at hs
  obtain ⟨D,hD⟩:=h7 L[i] (by simp)
  obtain ⟨D',hD'⟩:=h7 L[j] (by simp)
  simp only [hidx i hi,hidx j hj,OB] at ho ⊢
  rcases hs with hs | hs
  ·rcases ho with ho | ho
   ·left
    rw [hD,hD'] at ho ⊢
    exact AE hs ho
   ·exact .inr ho
  ·exact .inr hs
 refine iC hb ops.size L (Array.replicate ops.size false) _ _ a _ hlen (by simp) ⟨fun p hpm=>?_,fun k o hk=>?_,?_,?_⟩ (fun j o _ hl=>?_) hpairs h2 hr.drew (fun a' w' hr'=>⟨rfl,by rw [h3,h4];exact hr'⟩)
 ·obtain ⟨j,hj,rfl⟩:=List.mem_iff_getElem.1 hpm
  rw [hidx j hj]
  exact hop j hj
 ·have hk':=(Array.getElem?_eq_some_iff.1 hk).1
  rw [h1']
  simp [hk']
 ·rw [h1'];exact List.nodup_range'
 ·rw [h1'];exact List.pairwise_lt_range'
 ·simp only [Array.getD_eq_getD_getElem?,Array.getElem?_replicate] at hl
  split at hl<;>simp at hl
theorem rJ {ids wr:List Nat} {t t':Nat -> Option LObj} (hs:∀ i,i ∈ ids -> i ∉ wr -> t' i = t i):∀ {outs:List (Nat × LObj)},(∀ p ∈ outs,t' p.1 = some p.2) -> ∀ o':Nat -> Option LObj,(∀ i ∈ ids,o' i = t i) -> luO (aA outs) o' = luO (aA (told ids wr outs)) o'
 | [],_,_,_=>rfl
 | (i, ob) :: r,h,o',ho=>by
  have ih:=rJ hs (outs:=r) (fun p hp=>h p (by simp [hp])) o' ho
  funext k
  simp only [aA,told]
  split
  ·rename_i hb
   rw [Bool.and_eq_true,Bool.not_eq_true'] at hb
   have hi:=f8.1 hb.1
   have hn:i ∉ wr:=fun hm=>by rw [f8.2 hm] at hb;cases hb.2
   rw [<- ih]
   simp only [luO]
   split
   ·rename_i hk
    subst hk
    have e1:some ob = o' k:=by rw [ho k hi,<- hs k hi hn,h (k,ob) (by simp)]
    -- what the rest says of k is the same
    have:∀ (l:List (Nat × LObj)),(∀ p ∈ l,t' p.1 = some p.2) -> luO (aA l) o' k = o' k:=by
     intro l hl
     induction l with
     | nil=>rfl
     | cons p l ihl=>
      obtain ⟨j,u⟩:=p
      simp only [aA,luO]
      split
      ·rename_i hj
       subst hj
       rw [ho k hi,<- hs k hi hn,hl (k,u) (by simp)]
      ·exact ihl fun p hp=>hl p (by simp [hp])
    rw [this r fun p hp=>h p (by simp [hp])]
    exact e1
   ·rfl
  ·simp only [aA,luO]
   rw [ih]
theorem ky {t:Tr LObj} {ids:List Nat}:∀ {l:List Nat},yq t ids l = true -> ∀ i ∈ l,i ∈ ids \/ t.get i = none
 | [],_,i,hi=>by simp at hi
 | j :: r,h,i,hi=>by
  simp only [yq] at h
  split at h
  ·rename_i hm
   rcases List.mem_cons.1 hi with rfl | hi
   ·exact .inl (f8.1 hm)
   ·exact ky h i hi
  ·split at h
   ·rename_i hn
    rcases List.mem_cons.1 hi with rfl | hi
    ·exact .inr hn
    ·exact ky h i hi
   ·cases h
theorem rK {o:Nat -> Option LObj} {ins:List (Nat × LObj)}:∀ {outs:List (Nat × LObj)},(∀ i ∈ outs.map (·.1),luL ins i ≠ none \/ o i = none) -> dH o ins outs
 | [],_=>trivial
 | (i,ob) :: r,h=>by
  refine ⟨?_,rK fun j hj=>h j (by simp at hj ⊢;exact .inr hj)⟩
  rcases h i (by simp) with h | h
  ·cases hl:luL ins i with
   | none=>exact absurd hl h
   | some _=>trivial
  ·cases hl:luL ins i with
   | none=>exact h
   | some _=>trivial
theorem rL {o:Nat -> Option LObj}:∀ {l:List (Nat × LObj)},cI o l -> ∀ p ∈ l,o p.1 = some p.2
 | [],_,p,hp=>by simp at hp
 | (i,ob) :: r,h,p,hp=>by
  rcases List.mem_cons.1 hp with rfl | hp
  ·exact h.1
  ·exact rL h.2 p hp
def IhOk (P:Program) (ih:List Nat -> Nat -> Bool -> Code -> XS -> Option (Exit × XS)):Prop:=∀ pid nt fl c A e B,ih pid nt fl c A = some (e,B) ->
 (∀ X:Frm,X.pid = pid -> X.nt = nt -> match fl with
  | false=>RunX P X c A e B
  | true=>RunL P X c A e B)/\Wr A B
theorem wF {e:Exit} (h:Cr e = true):e = .normal \/ e = .ret:=by
 unfold Cr at h
 split at h
 ·exact .inl rfl
 ·exact .inr rfl
 ·cases h
theorem ms (hT : bS P C.T) (hF:FOk P C.FT) (hMM:MMOk P C.MM) {ih:List Nat -> Nat -> Bool -> Code -> XS -> Option (Exit × XS)} (hih:IhOk P ih):yr P (AD C ih):=by
 intro A f vs R he
 unfold AD at he
 split at he
 ·rename_i r hr
  simp only [Option.some.injEq] at he
  subst he
  exact ⟨[],[],hMM _ _ _ hr,trivial,trivial,fun i hi=>by simp at hi,fun _ _=>rfl⟩
 unfold rH at he
 split at he
 ·rename_i c nt rs hft
  split at he
  ·rename_i hnt
   split at he
   ·rename_i ids hids
    split at he
    ·rename_i ins hins
     split at he
     ·rename_i hck
      split at he
      ·rename_i objs env hobjs henv
       split at he
       ·rename_i e B hrun
        split at he
        ·rename_i hend
         split at he
         ·rename_i rv hrv
          split at he
          ·rename_i oids hoids
           split at he
           ·rename_i outs houts
            split at he
            ·rename_i hck2
             simp only [Option.some.injEq] at he
             subst he
             simp only [Bool.and_eq_true] at hck hck2
             obtain ⟨hlive,hna,hcl⟩:=hck
             obtain ⟨hnr,hclo,hsub,hnew⟩:=hck2
             obtain ⟨i1,i2,i3⟩:=kw hins
             obtain ⟨o1,o2,o3⟩:=kw houts
             obtain ⟨hgood,hw⟩:=hih _ _ _ _ _ _ _ hrun
             obtain ⟨fn,f1,f2,f3,f4,f5⟩:=hF _ _ _ _ hft
             have hspec:CallSpec P f vs ins (cV rv) outs:=by
              refine bc hT c nt rs f1 f2 f3 f4 f5 (Nat.le_of_ble_eq_true hnt) ⟨kW hlive,by rw [i1];exact hna,by rw [o1];exact hnr,by rw [i1];exact kv hcl,by rw [o1];exact kv hclo,?_⟩ fun w0 Im0 ρ0=>⟨fun a w hr=>?_⟩
              ·rw [List.all_eq_true]
               intro p hp
               rw [o1]
               exact List.elem_eq_true_of_mem (rG hsub p.1 (by rw [<- i1];exact List.mem_map.2 ⟨p,hp,rfl⟩))
              ·have es:(St.mk (fy 0 vs) (aA ins)).s = env.get:=oz henv
               have eo:(St.mk (fy 0 vs) (aA ins)).o = objs.get:=iS hobjs
               rw [es,eo] at hr
               have hg:=hgood ⟨w0,Im0,ins.map (·.1),ρ0,nt⟩ i1 rfl a w hr
               refine Go.wpIn_mono hg fun e' a' w'=>?_
               rintro ⟨rfl,hr'⟩
               obtain ⟨benv,hbe⟩:=Tr.env B.env
               obtain ⟨bobjs,hbo⟩:=Tr.objs B.objs
               have es':(St.mk benv bobjs).s = B.env.get:=hbe
               have eo':(St.mk benv bobjs).o = B.objs.get:=hbo
               rw [<- es',<- eo'] at hr' hrv
               rw [<- eo'] at o2
               have hfin:∃ C',Ghost ⟨w0,Im0,ins.map (·.1),ρ0,nt⟩ ⟨benv,bobjs⟩ C'/\cU C.T C' rs (fun us=>AvLe (cV us) (cV rv))/\cI C'.o outs :=
                ⟨_,Ghost.rfl,t8 hrv _ AvLe.rfl,o2⟩
               rcases wF hend with rfl|rfl
               ·exact ⟨⟨benv,bobjs⟩,hfin,hr'⟩
               ·exact ⟨⟨benv,bobjs⟩,hfin,hr'⟩
             refine ⟨ins,outs,hspec,i2,rK fun i hi=>?_,fun i hi=>?_,fun o' ho'=>?_⟩
             ·rw [o1] at hi
              rcases ky hnew i hi with h | h
              ·exact .inl (bb.2 (by rw [i1];exact h))
              ·exact .inr h
             ·rw [i1,o1] at hi;exact hi
             ·refine rJ (t:=A.objs.get) (t':=B.objs.get) (fun i hi hn=>?_) (rL o2) o' (fun i hi=>ho' i (by simp [hi]))
              rw [hw.same i hn]
              have:=congrFun (iS hobjs) i
              have e2:luB (aA ins) i = luL ins i:=by
               clear hgood hspec i1 i2 i3 this hins hlive hcl hobjs hrun
               induction ins with
               | nil=>rfl
               | cons p r ih=>obtain ⟨k,v⟩:=p;simp only [aA,luB,luL,ih]
              rw [e2,i3,if_pos hi] at this
              exact this.symm
            ·cases he
           ·cases he
          ·cases he
         ·cases he
        ·cases he
       ·cases he
      ·cases he
     ·cases he
    ·cases he
   ·cases he
  ·cases he
 ·cases he
theorem t9 (hm:P.follows .mixedOrders = true) (hT:bS P C.T) (hM:MOk P C.MT) (hF:FOk P C.FT) (hMM:MMOk P C.MM) {ih:List Nat -> Nat -> Bool -> Code -> XS -> Option (Exit × XS)} (hih:IhOk P ih):IhOk P (Cs C ih):=by
 have hh:=ms hT hF hMM hih
 intro pid nt fl c A e B he
 unfold Cs at he
 cases fl with
 | true=>
  simp only at he
  split at he
  ·rename_i e1 B1 h1
   obtain ⟨g1,w1⟩:=hih _ _ _ _ _ _ _ h1
   split at he
   ·obtain ⟨g2,w2⟩:=hih _ _ _ _ _ _ _ he
    refine ⟨fun X hp hn a w hr b k cs hro hb hrm=>?_,w1.trans w2⟩
    obtain ⟨e',a1,w1',⟨rfl,hr1⟩,harr⟩:=g1 X hp hn a w hr b (.inLoop c :: k) cs hro hb hrm
    obtain ⟨e2,a2,w2',hq,harr2⟩:=g2 X hp hn a1 w1' hr1 b k cs hro hb hrm
    exact ⟨e2,a2,w2',hq,.of_steps (StepsIn.trans harr (.one (fenced_calm hb hrm rfl) stepR_inLoop)) harr2⟩
   ·rename_i hne
    simp only [Option.some.injEq,Prod.mk.injEq] at he
    obtain ⟨rfl,rfl⟩:=he
    refine ⟨fun X hp hn a w hr b k cs hro hb hrm=>?_,w1⟩
    obtain ⟨e',a1,w1',⟨rfl,hr1⟩,harr⟩:=g1 X hp hn a w hr b (.inLoop c :: k) cs hro hb hrm
    cases e' with
    | normal=>exact absurd rfl hne
    | exit id=>exact ⟨_,a1,w1',⟨rfl,hr1⟩,.pass (x:=.inLoop c) rfl (fun _ _=>.inl (by simp)) harr⟩
    | goto l=>exact ⟨_,a1,w1',⟨rfl,hr1⟩,.pass (x:=.inLoop c) rfl (fun _ _=>.inl (by simp)) harr⟩
    | ret=>exact ⟨_,a1,w1',⟨rfl,hr1⟩,.pass (x:=.inLoop c) rfl (fun _ _=>.inl (by simp)) harr⟩
    | panic ch=>exact ⟨_,a1,w1',⟨rfl,hr1⟩,.pass (x:=.inLoop c) rfl (fun _ _=>.inl (by simp)) harr⟩
    | outgrown=>exact ⟨_,a1,w1',⟨rfl,hr1⟩,.pass (x:=.inLoop c) rfl (fun _ _=>.inl (by simp)) harr⟩
  ·cases he
 | false =>
  simp only at he
  split at he
  ·simp only [Option.some.injEq,Prod.mk.injEq] at he
   obtain ⟨rfl,rfl⟩:=he
   exact ⟨fun X hp hn a w hr=>wpIn_skip ⟨rfl,hr⟩,Wr.refl _⟩
  ·rename_i id ops d
   cases d with
   | false=>
    simp only at he
    split at he
    ·rename_i B' hB
     simp only [Option.some.injEq,Prod.mk.injEq] at he
     obtain ⟨rfl,rfl⟩:=he
     refine ⟨fun X hp hn=>?_,?_⟩
     ·subst hp;subst hn;exact (mr hT hM hh hB).1
     ·exact (mr (X:=⟨default,fun _=>False,pid,fun _=>(none,0),nt⟩) (id:=id) hT hM hh hB).2
    ·cases he
   | true=>
    simp only at he
    split at he
    ·rename_i hok
     split at he
     ·rename_i B' hB
      simp only [Option.some.injEq,Prod.mk.injEq] at he
      obtain ⟨rfl,rfl⟩:=he
      refine ⟨fun X hp hn=>?_,?_⟩
      ·subst hp;subst hn;exact (kX hm hT hM hh hok hB).1
      ·exact (kX (X:=⟨default,fun _=>False,pid,fun _=>(none,0),nt⟩) (id:=id) hm hT hM hh hok hB).2
     ·cases he
    ·cases he
  ·rename_i x y
   split at he
   ·rename_i e1 B1 h1
    obtain ⟨g1,w1⟩:=hih _ _ _ _ _ _ _ h1
    split at he
    ·obtain ⟨g2,w2⟩:=hih _ _ _ _ _ _ _ he
     refine ⟨fun X hp hn a w hr=>wpIn_seq (Go.wpIn_mono (g1 X hp hn a w hr) fun e' a' w'=>?_),w1.trans w2⟩
     rintro ⟨rfl,hr'⟩
     exact g2 X hp hn a' w' hr'
    ·rename_i hne
     simp only [Option.some.injEq,Prod.mk.injEq] at he
     obtain ⟨rfl,rfl⟩:=he
     refine ⟨fun X hp hn a w hr=>wpIn_seq (Go.wpIn_mono (g1 X hp hn a w hr) fun e' a' w'=>?_),w1⟩
     rintro ⟨rfl,hr'⟩
     cases e' with
     | normal=>exact absurd rfl hne
     | _=>exact ⟨rfl,hr'⟩
   ·cases he
  ·rename_i x y z
   split at he
   ·rename_i t ht
    have hrun:∀ (X:Frm) a w,Rel X A.env.get A.objs.get a w -> a.eval x = .bool t:=by
     rintro X a w ⟨ρ,Im,hr'⟩
     exact (hr'.opd ht).bool_inv
    cases t with
    | true=>
     simp only at he
     obtain ⟨g1,w1⟩:=hih _ _ _ _ _ _ _ he
     exact ⟨fun X hp hn a w hr=>wpIn_cond_split (hrun X a w hr) (fun _=>g1 X hp hn a w hr) (fun hf=>by cases hf),w1⟩
    | false=>
     simp only at he
     obtain ⟨g1,w1⟩:=hih _ _ _ _ _ _ _ he
     exact ⟨fun X hp hn a w hr=>wpIn_cond_split (hrun X a w hr) (fun hf=>by cases hf) (fun _=>g1 X hp hn a w hr),w1⟩
   ·cases he
  ·rename_i id c
   split at he
   ·rename_i e1 B1 h1
    obtain ⟨g1,w1⟩:=hih _ _ _ _ _ _ _ h1
    split at he
    ·rename_i i
     split at he
     ·rename_i hb
      simp only [Option.some.injEq,Prod.mk.injEq] at he
      obtain ⟨rfl,rfl⟩:=he
      refine ⟨fun X hp hn a w hr=>wpIn_block (Go.wpIn_mono (g1 X hp hn a w hr) fun e' a' w'=>?_),w1⟩
      rintro ⟨rfl,hr'⟩
      simp only [Exit.inBlock]
      rw [if_pos (Nat.eq_of_beq_eq_true hb)]
      exact ⟨by trivial,hr'⟩
     ·rename_i hb
      simp only [Option.some.injEq,Prod.mk.injEq] at he
      obtain ⟨rfl,rfl⟩:=he
      refine ⟨fun X hp hn a w hr=>wpIn_block (Go.wpIn_mono (g1 X hp hn a w hr) fun e' a' w'=>?_),w1⟩
      rintro ⟨rfl,hr'⟩
      simp only [Exit.inBlock]
      rw [if_neg (Nat.ne_of_beq_eq_false hb)]
      exact ⟨by trivial,hr'⟩
    ·rename_i hne
     simp only [Option.some.injEq,Prod.mk.injEq] at he
     obtain ⟨rfl,rfl⟩:=he
     refine ⟨fun X hp hn a w hr=>wpIn_block (Go.wpIn_mono (g1 X hp hn a w hr) fun e' a' w'=>?_),w1⟩
     rintro ⟨rfl,hr'⟩
     cases e' with
     | exit i=>exact absurd rfl (hne i)
     | _=>exact ⟨rfl,hr'⟩
   ·cases he
  ·rename_i c
   obtain ⟨g1,w1⟩:=hih _ _ _ _ _ _ _ he
   refine ⟨fun X hp hn a w hr b k cs hro hb hrm=>?_,w1⟩
   obtain ⟨e',a1,w1',hq,harr⟩:=g1 X hp hn a w hr b k cs hro hb hrm
   exact ⟨e',a1,w1',hq,.of_steps (.one (fenced_calm hb hrm rfl) stepR_loop) harr⟩
  ·simp only [Option.some.injEq,Prod.mk.injEq] at he
   obtain ⟨rfl,rfl⟩:=he
   exact ⟨fun X hp hn a w hr=>wpIn_exit ⟨rfl,hr⟩,Wr.refl _⟩
  ·simp only [Option.some.injEq,Prod.mk.injEq] at he
   obtain ⟨rfl,rfl⟩:=he
   exact ⟨fun X hp hn a w hr=>wpIn_ret ⟨rfl,hr⟩,Wr.refl _⟩
  ·simp only [Option.some.injEq,Prod.mk.injEq] at he
   obtain ⟨rfl,rfl⟩:=he
   exact ⟨fun X hp hn a w hr=>wpIn_label ⟨rfl,hr⟩,Wr.refl _⟩
  ·rename_i c
   split at he
   ·rename_i e1 B1 h1
    obtain ⟨g1,w1⟩:=hih _ _ _ _ _ _ _ h1
    split at he
    ·cases he
    ·rename_i hne
     simp only [Option.some.injEq,Prod.mk.injEq] at he
     obtain ⟨rfl,rfl⟩:=he
     refine ⟨fun X hp hn a w hr=>og (Go.wpIn_mono (g1 X hp hn a w hr) fun e' a' w'=>?_),w1⟩
     rintro ⟨rfl,hr'⟩
     cases e' with
     | goto l=>exact absurd rfl (hne l)
     | _=>exact ⟨rfl,hr'⟩
   ·cases he
  ·cases he
theorem oA (hm:P.follows .mixedOrders = true) (hT:bS P C.T) (hM:MOk P C.MT) (hF:FOk P C.FT) (hMM:MMOk P C.MM):∀ n:Nat,IhOk P (xrun C n)
 | 0=>fun _ _ _ _ _ _ _ he=>by cases he
 | n + 1=>t9 hm hT hM hF hMM (oA hm hT hM hF hMM n)
end
end Go.Nc
