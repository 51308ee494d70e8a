/- Contracts out of runs: what was made is frozen at the end. -/
import Derived.Test.YtdkcmppdckkofaaGreatNcX4
namespace Go.Nc
mutual
def nK (id:Nat) (ob:LObj):AV -> Bool
 | .osl i n=>match Nat.beq i id with
  | true=>match ob with
   | .arr m _ _ _=>Nat.ble n m
   | _=>true
  | false=>true
 | .osub i off n sz=>match Nat.beq i id with
  | true=>match ob with
   | .arr m sz' _ _=>Nat.blt 0 n && (Nat.ble (off + n) m && Nat.beq sz' sz)
   | _=>true
  | false=>true
 | .optr i sz a _=>match Nat.beq i id with
  | true=>match ob with
   | .arr m sz' _ _=>Nat.blt a m && Nat.beq sz' sz
   | _=>true
  | false=>true
 | .fn _ cs=>frzCLB id ob cs
 | .agg cs=>frzCLB id ob cs
 | .tup cs=>frzCLB id ob cs
 | _=>true
def frzCLB (id:Nat) (ob:LObj):List AV -> Bool
 | []=>true
 | c :: cs=>nK id ob c && frzCLB id ob cs
end
mutual
theorem oB {id:Nat} {ob:LObj}:∀ {v:AV},nK id ob v = true -> frzC id ob v
 | .osl i n,h=>by
  simp only [nK] at h
  simp only [frzC]
  cases hb:Nat.beq i id with
  | false=>trivial
  | true=>
   simp only [hb] at h
   cases ob<;>first| trivial|exact Nat.le_of_ble_eq_true h
 | .osub i off n sz,h=>by
  simp only [nK] at h
  simp only [frzC]
  cases hb:Nat.beq i id with
  | false=>trivial
  | true =>
   simp only [hb] at h
   cases ob<;>first
    | trivial
    | (simp only [Bool.and_eq_true] at h
       exact ⟨Nat.ne_of_gt (Nat.blt_eq.mp h.1),Nat.le_of_ble_eq_true h.2.1,Nat.eq_of_beq_eq_true h.2.2⟩)
 | .optr i sz a j,h=>by
  simp only [nK] at h
  simp only [frzC]
  cases hb:Nat.beq i id with
  | false=>trivial
  | true =>
   simp only [hb] at h
   cases ob<;>first
    | trivial
    | (simp only [Bool.and_eq_true] at h
       exact ⟨Nat.blt_eq.mp h.1,Nat.eq_of_beq_eq_true h.2⟩)
 | .fn _ cs,h=>frzCLB_spec (cs:=cs) (by simpa [nK] using h)
 | .agg cs,h=>frzCLB_spec (cs:=cs) (by simpa [nK] using h)
 | .tup cs,h=>frzCLB_spec (cs:=cs) (by simpa [nK] using h)
 | .int _ _,_ | .bool _,_ | .str _,_ | .junk,_ | .isl _ _ _,_ | .icap _ _ _,_ | .eptr _ _ _ _ _,_ | .ibox _ _,_ | .nils,_ | .emp,_ | .niface,_ | .nfunc,_ | .nptr,_ | .nmap,_ | .iface _ _,_ | .lptr _ _,_ | .mref _,_ | .yld _,_=>by simp only [frzC]
theorem frzCLB_spec {id:Nat} {ob:LObj}:∀ {cs:List AV},frzCLB id ob cs = true -> frzCL id ob cs
 | [],_=>trivial
 | c :: cs,h=>by
  simp only [frzCLB,Bool.and_eq_true] at h
  exact ⟨oB h.1,frzCLB_spec h.2⟩
end
def AF (id:Nat) (ob:LObj) (get:Nat -> List AV):Nat -> Bool
 | 0=>true
 | n + 1=>match frzCLB id ob (get n) with
  | true=>AF id ob get n
  | false=>false
theorem oC {id:Nat} {ob:LObj} {get:Nat -> List AV}:∀ {n:Nat},AF id ob get n = true -> ∀ i,i < n -> frzCL id ob (get i)
 | 0,_,i,hi=>absurd hi (Nat.not_lt_zero i)
 | n + 1,h,i,hi=>by
  simp only [AF] at h
  split at h
  ·rename_i h1
   by_cases e:i = n
   ·rw [e];exact frzCLB_spec h1
   ·exact oC h i (by omega)
  ·cases h
def frzOCB (id:Nat) (ob:LObj):LObj -> Bool
 | .box cs=>frzCLB id ob cs
 | .arr n _ get _=>AF id ob get n
 | .dead=>true
 | .map _=>false
 | .lrec ..=>false
def pP (id:Nat) (ob:LObj):List (Nat × LObj) -> Bool
 | []=>true
 | (_,u) :: r=>frzOCB id ob u && pP id ob r
def Ct:LObj -> Bool
 | .box cs=>nmL [] cs
 | .arr n _ get _=>ym [] get n
 | _=>false
theorem wG {ob:LObj} (h:Ct ob = true):imOf ob:=by
 cases ob with
 | box cs=>exact h
 | arr n sz get T=>exact ku h
 | map kvs=>cases h
 | lrec=>cases h
 | dead=>cases h
def rM (id:Nat) (ob:LObj):List (Nat × LObj) -> List (Nat × LObj)
 | []=>[]
 | (j,u) :: r=>match Nat.beq j id with
  | true=>rM id ob r
  | false=>(j,frzO id ob u) :: rM id ob r
theorem mt {id:Nat} {ob:LObj}:∀ {l:List (Nat × LObj)} {j:Nat},luL (rM id ob l) j = if j = id then none else (luL l j).map (frzO id ob)
 | [],j=>by simp [rM,luL]
 | (k,u) :: r,j=>by
  simp only [rM]
  cases hb:Nat.beq k id with
  | true=>
   have:=Nat.eq_of_beq_eq_true hb
   subst this
   simp only
   rw [mt]
   by_cases e:j = k
   ·simp [e]
   ·simp [e,bk]
  | false=>
   have hne:=Nat.ne_of_beq_eq_false hb
   simp only
   rw [bk,bk,mt]
   by_cases e:j = k
   ·subst e;simp [hne]
   ·simp only [e,if_false]
section
variable {P:Program}
theorem kz (l:List (Nat × LObj)) (i:Nat):luB (aA l) i = luL l i:=by
 induction l with
 | nil=>rfl
 | cons p r ih=>obtain ⟨k,v⟩:=p;simp only [aA,luB,luL,ih]
theorem Cu {w w':World} {Im Im':Nat -> Prop} {ins outs:List (Nat × LObj)} {ρ ρ':Loc} {r:AV} {y:Value} (hm:Mem (aZ w Im ins ρ 0) ρ' Im' (luL outs) w') (hc:Con ρ' Im' w'.heap r y) (hn:∀ i,Names i r -> luL outs i ≠ none) :
  RelAt (aZ w Im ins ρ 1) ρ' Im' (St.mk [(0,r)] (aA outs)).s (St.mk [(0,r)] (aA outs)).o { tmps:=#[y],defers:=[] } w':=by
 have e:(St.mk [(0,r)] (aA outs)).o = luL outs:=funext fun i=>kz outs i
 rw [e]
 exact
  {objs:=hm.objs,own:=hm.own,inj:=hm.inj,ocl:=hm.ocl,imlt:=hm.imlt,im0:=hm.im0,imf:=hm.imf,os:=hm.os,tape:=hm.tape,output:=hm.output,size:=hm.size,frame:=hm.frame,pin:=hm.pin,
   slots:=fun k v hv=>by
    have h2:luS [(0,r)] k = some v:=hv
    rw [dc] at h2
    split at h2
    ·rename_i hk
     cases h2
     rw [hk]
     exact ⟨y,rfl,hc⟩
    ·cases h2
   scl := fun k v hv=>by
    have h2:luS [(0,r)] k = some v:=hv
    rw [dc] at h2
    split at h2
    ·cases h2
     exact hn
    ·cases h2
   defers:=DefOk.nil _ _ _,nt:=rfl,lrc:=hm.lrc,rnd:=hm.rnd }
theorem Cv {w w':World} {Im Im':Nat -> Prop} {ins:List (Nat × LObj)} {ρ ρ':Loc} {s:Nat -> Option AV} {o:Nat -> Option LObj} {a:Act} (h:RelAt (aZ w Im ins ρ 1) ρ' Im' s o a w'):Mem (aZ w Im ins ρ 0) ρ' Im' o w' :=
 {objs:=h.objs,own:=h.own,inj:=h.inj,ocl:=h.ocl,imlt:=h.imlt,im0:=h.im0,imf:=h.imf,os:=h.os,tape:=h.tape,output:=h.output,size:=h.size,frame:=h.frame,pin:=h.pin,lrc:=h.lrc,rnd:=h.rnd }
theorem CallSpec.frz {f:FuncId} {vs:List AV} {outs:List (Nat × LObj)} {r:AV} (h:CallSpec P f vs [] r outs) (id:Nat) {ob:LObj} (hob:luL outs id = some ob) (him:Ct ob = true) (hc:nK id ob r = true) (hoc:pP id ob outs = true) :
  CallSpec P f vs [] (frzV id ob r) (rM id ob outs):=by
 have hoc':iG id ob (aA outs):=by
  clear hob h
  induction outs with
  | nil=>trivial
  | cons p l ih=>
   obtain ⟨j,u⟩:=p
   simp only [pP,Bool.and_eq_true] at hoc
   refine ⟨?_,ih hoc.2⟩
   have h1:=hoc.1
   cases u with
   | box cs=>exact frzCLB_spec h1
   | arr n sz get T=>exact oC h1
   | map kvs=>cases h1
   | lrec=>cases h1
   | dead=>trivial
 refine ⟨h.enter,h.icl,h.live,fun w ρ Im xs hm hx=>(h.calls w ρ Im xs hm hx).mono fun e w'=>?_⟩
 rintro ⟨y,ρ',Im',rfl,hcy,hn,hmem⟩
 have hrel:=Cu hmem hcy hn
 have hg:=jq (X:=aZ w Im [] ρ 1) (A:=St.mk [(0,r)] (aA outs)) id (ob:=ob) (by rw [kz];exact hob) rfl (wG him) ⟨oB hc,trivial⟩ hoc'
 obtain ⟨ρ2,Im2,h2⟩:=hg.run _ _ ⟨ρ',Im',hrel⟩
 have eo:((St.mk [(0,r)] (aA outs)).frz id ob).o = luL (rM id ob outs):=by
  funext i
  show luB (ru id ob (aA outs)) i = _
  rw [jp,mt,kz]
 have es:((St.mk [(0,r)] (aA outs)).frz id ob).s 0 = some (frzV id ob r):=rfl
 obtain ⟨x,hx1,hx2⟩:=h2.slots 0 _ es
 have hxy:x = y:=by simpa using hx1.symm
 subst hxy
 refine ⟨x,ρ2,Im2,rfl,hx2,fun i hi=>?_,?_⟩
 ·have:=h2.scl 0 _ es i hi
  rw [eo] at this
  exact this
 ·have:=Cv h2
  rw [eo] at this
  exact this
theorem CallSpec.fin {f:FuncId} {vs:List AV} {outs:List (Nat × LObj)} {r r':AV} (h:CallSpec P f vs [] r outs) (hle:AvLe r r') (hn:nmV [] r' = true):CallSpec P f vs [] r' []:=by
 refine ⟨h.enter,h.icl,h.live,fun w ρ Im xs hm hx=>(h.calls w ρ Im xs hm hx).mono fun e w'=>?_⟩
 rintro ⟨y,ρ',Im',rfl,hcy,_,hmem⟩
 refine ⟨y,ρ',Im',rfl,hle.con _ _ _ _ hcy,fun i hi=>by have:=bL hi hn;simp at this,?_⟩
 exact
  {objs:=fun id ob h=>by simp [luL] at h,own:=fun id ob b h=>by simp [luL] at h,inj:=fun id id' ob ob' b h=>by simp [luL] at h,ocl:=fun id ob h=>by simp [luL] at h,
   imlt:=hmem.imlt,im0:=hmem.im0,imf:=hmem.imf,os:=hmem.os,tape:=hmem.tape,output:=hmem.output,size:=hmem.size,frame:=hmem.frame,pin:=fun id h=>by simp [aZ] at h,lrc:=hmem.lrc,rnd:=hmem.rnd }
def rN:List Nat -> AV -> List (Nat × LObj) -> Option AV
 | [],r,_=>some r
 | id :: l,r,outs=>match luL outs id with
  | some ob=>match Ct ob && (nK id ob r && pP id ob outs) with
   | true=>rN l (frzV id ob r) (rM id ob outs)
   | false=>none
  | none=>none
theorem mv {f:FuncId} {vs:List AV} {r' q:AV} (hn:nmV [] q = true) (hle:∀ r,r = r' -> AvLe r q):∀ {l:List Nat} {r:AV} {outs:List (Nat × LObj)},CallSpec P f vs [] r outs -> rN l r outs = some r' -> CallSpec P f vs [] q []
 | [],r,outs,h,he=>by
  simp only [rN,Option.some.injEq] at he
  exact h.fin (hle r he) hn
 | id :: l,r,outs,h,he=>by
  simp only [rN] at he
  split at he
  ·rename_i ob hob
   split at he
   ·rename_i hb
    simp only [Bool.and_eq_true] at hb
    exact mv hn hle (h.frz id hob hb.1 hb.2.1 hb.2.2) he
   ·cases he
  ·cases he
noncomputable def xtop (C:Ctx) (n:Nat) (f:FuncId) (vs:List AV) (fz:List Nat) (q:AV):Bool:=match rH C (xrun C n) ⟨.leaf,.leaf,1,[]⟩ f vs with
 | some R=>match rN fz R.r R.outs with
  | some r=>avEq 60 r q && nmV [] q
  | none=>false
 | none=>false
theorem tA {C:Ctx} (hm:P.follows .mixedOrders = true) (hT:bS P C.T) (hM:MOk P C.MT) (hF:FOk P C.FT) (hMM:MMOk P C.MM) {n:Nat} {f:FuncId} {vs:List AV} {R:XR} (he:rH C (xrun C n) ⟨.leaf,.leaf,1,[]⟩ f vs = some R):CallSpec P f vs [] R.r R.outs:=by
 have hh:=ms (C:={ C with MM:=fun _ _=>none }) hT hF (fun _ _ _ h=>by cases h) (oA (C:=C) hm hT hM hF hMM n)
 have:=hh ⟨.leaf,.leaf,1,[]⟩ f vs R he
 obtain ⟨ins,outs,h1,h2,h3,h4,h5⟩:=this
 have hins:ins = []:=by
  cases ins with
  | nil=>rfl
  | cons p l=>have:=h2.1;cases this
 subst hins
 have e:luL outs = luL R.outs:=by
  have:=h5 (fun _=>none) (fun _ _=>rfl)
  funext i
  have:=congrFun this i
  rw [bK,bK] at this
  cases h6:luL outs i<;>cases h7:luL R.outs i<;>simp [h6,h7] at this ⊢<;>exact this
 refine ⟨h1.enter,h1.icl,h1.live,fun w ρ Im xs hm hx=>(h1.calls w ρ Im xs hm hx).mono fun e' w'=>?_⟩
 rintro ⟨y,ρ',Im',h6,h7,h8,h9⟩
 rw [e] at h8 h9
 exact ⟨y,ρ',Im',h6,h7,h8,h9⟩
theorem mw {C:Ctx} (hm:P.follows .mixedOrders = true) (hT:bS P C.T) (hM:MOk P C.MT) (hF:FOk P C.FT) (hMM:MMOk P C.MM) {n:Nat} {f:FuncId} {vs:List AV} {fz:List Nat} {q:AV} (h:xtop C n f vs fz q = true):CallSpec P f vs [] q []:=by
 unfold xtop at h
 split at h
 ·rename_i R hR
  split at h
  ·rename_i r hr
   rw [Bool.and_eq_true] at h
   exact mv h.2 (fun r' he=>by rw [he];exact ((rC 60).1 _ _ h.1).av) (tA hm hT hM hF hMM hR) hr
  ·cases h
 ·cases h
end
def luM:List (Nat × List AV × AV) -> FuncId -> List AV -> Option AV
 | [],_,_=>none
 | (g,us,r) :: l,f,vs=>match Nat.beq f g with
  | true=>match avsEq 60 vs us with
   | true=>some r
   | false=>luM l f vs
  | false=>luM l f vs
def tB (P:Program):List (Nat × List AV × AV) -> Prop
 | []=>True
 | (g,us,r) :: l=>CallSpec P g us [] r []/\tB P l
theorem my {P:Program}:∀ {l:List (Nat × List AV × AV)},tB P l -> MMOk P (luM l)
 | [],_,f,vs,r,h=>by cases h
 | (g, us,q) :: l,hc,f,vs,r,h=>by
  simp only [luM] at h
  split at h
  ·rename_i hb
   have:=Nat.eq_of_beq_eq_true hb
   subst this
   split at h
   ·rename_i he
    simp only [Option.some.injEq] at h
    subst h
    exact hc.1.arg (AB he)
   ·exact my hc.2 _ _ _ h
  ·exact my hc.2 _ _ _ h
def luF {α:Type}:List (Nat × α) -> Nat -> Option α
 | [],_=>none
 | (k,v) :: r,n=>match Nat.beq n k with
  | true=>some v
  | false=>luF r n
def ent (f:Func):Code × Nat × List ResultVar:=(xL f,f.ntmps,f.results.toList)
def FChk (P:Program):List (Nat × Func) -> Prop
 | []=>True
 | (k, f) :: r => (P.funcs[k]? = some f ∧ f.body.isSome = true ∧ (f.name == "runtime.NumGoroutine") = false) ∧ FChk P r
def entL:List (Nat × Func) -> List (Nat × (Code × Nat × List ResultVar))
 | []=>[]
 | (k,f) :: r=>(k,ent f) :: entL r
theorem vj {P:Program}:∀ {l:List (Nat × Func)},FChk P l -> FOk P (luF (entL l))
 | [],_,f,c,nt,rs,h=>by cases h
 | (k,g) :: r,hc,f,c,nt,rs,h=>by
  simp only [entL,luF] at h
  split at h
  ·rename_i hb
   have:=Nat.eq_of_beq_eq_true hb
   subst this
   simp only [Option.some.injEq,ent,Prod.mk.injEq] at h
   obtain ⟨rfl,rfl,rfl⟩:=h
   obtain ⟨h1,h2,h3⟩:=hc.1
   refine ⟨g,h1,?_,h3,rfl,rfl⟩
   unfold xL
   cases hbd:g.body with
   | none=>rw [hbd] at h2;cases h2
   | some c=>rfl
  ·exact vj hc.2 _ _ _ _ h
end Go.Nc
