/- Parts. -/
import Derived.Scope
import Derived.Test.YtbdkgpcdkalfdaaGreatNcBT
namespace Go.Nc
open Go.Proofs.Tryz
theorem bS{b:Bool}{p:Prop}(h:ck b p):p/\∀q:Prop,q->ck b q:=by
 cases b with
 |true=>exact⟨h,λ_ q=>q⟩
 |false=>exact h.elim
theorem ER{d:TK}{op:BinOp}{x y:AV}{k:AV->Prop}(h:vBin d op x y k):∃r,k r/\∀k':AV->Prop,k' r->vBin d op x y k':=by
 unfold vBin at h;split at h;all_goals first
  |exact h.elim
  |exact⟨_,h,λ_ q=>q⟩
  |exact⟨_,h.2,λ_ q=>⟨h.1,q⟩⟩
  | (split at h
     all_goals first|exact h.elim|exact⟨_,h,λ_ q=>q⟩|exact⟨_,h.2,λ_ q=>⟨h.1,q⟩⟩)
theorem BK{P:Program}{t:Nat}{d:TK}{op:BinOp}{x y:AV}{k:AV->Prop}(h:Af P t d op x y k):∃r,k r/\∀k':AV->Prop,k' r->Af P t d op x y k':=by
 unfold Af at h⊢;split at h
 ·exact⟨_,h.out,λ_ q=>.wrap q⟩
 ·rename_i hne;obtain⟨r,h1,h2⟩:=ER h;exact⟨r,h1,λk' q=>h2 _ q⟩
theorem Hy{op:UnOp}{x:AV}{k:AV->Prop}(h:vUn op x k):∃r,k r/\∀k':AV->Prop,k' r->vUn op x k':=by
 unfold vUn at h;split at h;all_goals first|exact h.elim|exact⟨_,h,λ_ q=>q⟩|exact⟨_,h.2,λ_ q=>⟨h.1,q⟩⟩
theorem yy{mx:Bool}{vs:List AV}{k:AV->Prop}(h:vMax mx vs k):∃r,k r/\∀k':AV->Prop,k' r->vMax mx vs k':=by
 unfold vMax at h;split at h;all_goals first|exact h.elim|exact⟨_,h,λ_ q=>q⟩
theorem BL{s d:TI}{x:AV}{k:AV->Prop}(h:Aa s d x k):∃r,k r/\∀k':AV->Prop,k' r->Aa s d x k':=by
 unfold Aa at h⊢;generalize s.tk=a at h⊢;generalize d.tk=b at h⊢;split at h
 ·exact⟨_,h.2,λ_ q=>⟨h.1,q⟩⟩
 ·exact⟨_,h.2,λ_ q=>⟨h.1,q⟩⟩
 ·exact h.elim
theorem uE{i:Nat}{x:AV}{k:AV->Prop}(h:j5 i x k):∃r,k r/\∀k':AV->Prop,k' r->j5 i x k':=by
 unfold j5 at h⊢;cases x with
 |tup vs=>
  dsimp only at h⊢;generalize vs[i]? =g at h⊢;cases g with
  |some v=>exact⟨v,h,λ_ q=>q⟩
  |none=>exact h.elim
 |_=>exact h.elim
theorem qZ{ti:TI}{cs:List AV}{off:Nat}{k:AV->Prop}(h:nT ti cs off k):∃r,k r/\∀k':AV->Prop,k' r->nT ti cs off k':=by
 unfold nT at h⊢;generalize ti.agg=g at h⊢;cases g with
 |true=>exact⟨_,(bS h).1,λ_ q=>(bS h).2 _ q⟩
 |false=>
  dsimp only at h⊢;generalize cs[off]? =g at h⊢;cases g with
  |some v=>exact⟨v,h,λ_ q=>q⟩
  |none=>exact h.elim
theorem mY{o:Xd}{p:AV}{k:List AV->Nat->List Nat->Prop}(h:i4 o p k):∃cs off ro,k cs off ro/\∀k':List AV->Nat->List Nat->Prop,k' cs off ro->i4 o p k':=by
 unfold i4 at h⊢;cases p with
 |lptr id off=>
  dsimp only at h⊢;generalize o id=g at h⊢;rcases g with _|ob
  ·exact h.elim
  ·cases ob with
   |box cs=>exact⟨_,_,_,h,λ_ q=>q⟩
   |_=>exact h.elim
 |ibox cs off=>exact⟨_,_,_,h,λ_ q=>q⟩
 |eptr n sz get i j=>exact⟨_,_,_,h,λ_ q=>q⟩
 |optr id sz i j=>
  dsimp only at h⊢;generalize o id=g at h⊢;rcases g with _|ob
  ·exact h.elim
  ·cases ob with
   |arr n sz' get T=>
    dsimp only at h⊢;obtain⟨⟨h1,⟨cs',h2,h3⟩⟩,h4⟩:=bS h;exact⟨_,_,_,h3,λ_ q=>h4 _ ⟨h1,⟨cs',h2,q⟩⟩⟩
   |_=>exact h.elim
 |_=>exact h.elim
theorem BM{ti:TI}{A:St}{p:Operand}{k:List Nat->AV->Prop}(h:zY ti A p k):∃ro r,k ro r/\∀k':List Nat->AV->Prop,k' ro r->zY ti A p k':=by
 unfold zY at h⊢;generalize opdV A.s p=g at h⊢;cases g with
 |none=>exact h.elim
 |some v=>
  dsimp only at h⊢;obtain⟨cs,off,ro,h1,h2⟩:=mY h;obtain⟨r,h3,h4⟩:=qZ h1;exact⟨_,_,h3,λk' q=>h2 _ (h4 (k' ro) q)⟩
theorem Ao{ti:TI}{o:Xd}{p v:AV}{k:Nat->LObj->Prop}(h:qN ti o p v k):∃id ob,k id ob/\∀k':Nat->LObj->Prop,k' id ob->qN ti o p v k':=by
 unfold qN at h⊢;cases p with
 |lptr id off=>
  dsimp only at h⊢;generalize o id=g at h⊢;rcases g with _|ob
  ·exact h.elim
  ·cases ob with
   |box cs=>
    dsimp only at h⊢;exact⟨_,_,(bS h).1,λ_ q=>(bS h).2 _ q⟩
   |_=>exact h.elim
 |optr id sz i j=>
  dsimp only at h⊢;generalize o id=g at h⊢;rcases g with _|ob
  ·exact h.elim
  ·cases ob with
   |arr n sz' get T=>
    dsimp only at h⊢;obtain⟨⟨h1,h2⟩,h4⟩:=bS h;exact⟨_,_,h2,λ_ q=>h4 _ ⟨h1,q⟩⟩
   |_=>exact h.elim
 |_=>exact h.elim
theorem Ap{ti:TI}{f:Nat}{p:AV}{k:AV->Prop}(h:qJ ti f p k):∃r,k r/\∀k':AV->Prop,k' r->qJ ti f p k':=by
 unfold qJ at h⊢;generalize ti.tk=tk at h⊢;cases tk with
 |struct=>
  dsimp only at h⊢;generalize ti.flds[f]? =g at h⊢;rcases g with _|⟨off,sz⟩
  ·exact h.elim
  ·dsimp only at h⊢;obtain⟨h1,h2⟩:=bS h;generalize gY p off=s at h1 h2⊢;cases s with
   |none=>exact h1.elim
   |some v=>exact⟨v,h1,λ_ q=>h2 _ q⟩
 |_=>exact h.elim
theorem wT{p:AV}{k:AV->Prop}(h:lQ p k):∃r,k r/\∀k':AV->Prop,k' r->lQ p k':=by
 unfold lQ at h⊢;generalize gY p 0=s at h⊢;cases s with
 |none=>exact h.elim
 |some v=>exact⟨p,h,λ_ q=>q⟩
theorem Aq{T:Tab}{ti:TI}{x ix:AV}{k:AV->Prop}(h:qK T ti x ix k):∃r,k r/\∀k':AV->Prop,k' r->qK T ti x ix k':=by
 unfold qK at h⊢;generalize ti.tk=tk at h⊢;cases tk with
 |slice e=>
  dsimp only at h⊢;generalize luT T e=g at h⊢;cases g with
  |none=>exact h.elim
  |some te=>
   dsimp only at h⊢;split at h
   ·obtain⟨⟨h1,h2⟩,h3⟩:=bS h;exact⟨_,h2,λ_ q=>h3 _ ⟨h1,q⟩⟩
   ·exact⟨_,h.2,λ_ q=>⟨h.1,q⟩⟩
   ·obtain⟨⟨h1,h2⟩,h3⟩:=bS h;exact⟨_,h2,λ_ q=>h3 _ ⟨h1,q⟩⟩
   ·exact h.elim
 |arr n e=>
  dsimp only at h⊢;generalize luT T e=g at h⊢;cases g with
  |none=>exact h.elim
  |some te=>
   dsimp only at h⊢;cases ix with
   |int kk i=>
    dsimp only at h⊢;obtain⟨h1,h2⟩:=h;generalize hs:gY x (i.toNat*te.size)=s at h2;cases s with
    |none=>exact h2.elim
    |some v=>exact⟨v,h2,λ_ q=>⟨h1,q⟩⟩
   |_=>exact h.elim
 |_=>exact h.elim
theorem ES{ti:TI}{x:AV}{k:AV->Prop}(h:vLen ti x k):∃r,k r/\∀k':AV->Prop,k' r->vLen ti x k':=by
 unfold vLen at h⊢;generalize ti.tk=tk at h⊢;split at h;all_goals first|exact h.elim|exact⟨_,h,λ_ q=>q⟩
theorem Ar{T:Tab}{ti:TI}{x:AV}{lo hi:Option AV}{k:AV->Prop}(h:qM T ti x lo hi k):∃r,k r/\∀k':AV->Prop,k' r->qM T ti x lo hi k':=by
 unfold qM at h⊢;generalize ti.tk=tk at h⊢;cases tk with
 |slice e=>
  dsimp only at h⊢;generalize luT T e=g at h⊢;cases g with
  |none=>exact h.elim
  |some te=>
   dsimp only at h⊢;split at h;all_goals first
    |exact h.elim
    |exact⟨_,h.2,λ_ q=>⟨h.1,q⟩⟩
    | (obtain⟨⟨h1,h2⟩,h3⟩:=bS h
       exact⟨_,h2,λ_ q=>h3 _ ⟨h1,q⟩⟩)
 |_=>exact h.elim
theorem wU{T:Tab}{ti:TI}{o:Xd}{x:AV}{lo hi:Option AV}{k:List Nat->AV->Prop}(h:lW T ti o x lo hi k):∃ro r,k ro r/\∀k':List Nat->AV->Prop,k' ro r->lW T ti o x lo hi k':=by
 unfold lW at h⊢;split at h
 ·split at h
  ·rename_i e _;generalize luT T e=ge at h⊢;rcases ge with _|te
   ·exact h.elim
   ·dsimp only at h⊢;split at h
    ·obtain⟨⟨h1,h2⟩,h3⟩:=bS h;exact⟨_,_,h2,λ_ q=>h3 _ ⟨h1,q⟩⟩
    ·exact h.elim
  ·exact h.elim
 ·obtain⟨r,h1,h2⟩:=Ar h;exact⟨_,_,h1,λ_ q=>h2 _ q⟩
theorem wV{cst:Bool}{ti:TI}{x hi mx:AV}{k:AV->Prop}(h:lR cst ti x hi mx k):∃r,k r/\∀k':AV->Prop,k' r->lR cst ti x hi mx k':=by
 unfold lR at h⊢;cases cst with
 |false=>
  dsimp only at h⊢;generalize ti.tk=tk at h⊢;cases tk with
  |slice e=>
   dsimp only at h⊢;split at h
   ·exact⟨_,h.2,λ_ q=>⟨h.1,q⟩⟩
   ·exact h.elim
  |_=>exact h.elim
 |true=>
 dsimp only at h⊢;generalize ti.tk=tk at h⊢;cases tk with
 |slice e=>
  dsimp only at h⊢;split at h
  ·obtain⟨h1,h2⟩:=h;cases x with
   |isl n sz get=>exact⟨_,h2,λ_ q=>⟨h1,q⟩⟩
   |osl id n=>exact⟨_,h2,λ_ q=>⟨h1,q⟩⟩
   |osub id off n sz=>exact⟨_,h2,λ_ q=>⟨h1,q⟩⟩
   |nils=>exact⟨_,h2,λ_ q=>⟨h1,q⟩⟩
   |emp=>exact⟨_,h2,λ_ q=>⟨h1,q⟩⟩
   |_=>exact h2.elim
  ·exact h.elim
 |_=>exact h.elim
theorem ET{v:AV}{k:List AV->Prop}(h:vBox v k):∃r,k r/\∀k':List AV->Prop,k' r->vBox v k':=by
 unfold vBox at h⊢;cases v with
 |junk=>exact h.elim
 |_=>exact⟨_,h,λ_ q=>q⟩
theorem kK{o:Xd}{v:AV}{sz:Nat}{k:Nat->(Nat->List AV)->List Nat->Prop}(h:sq o v sz k):∃n get ro,k n get ro/\∀k':Nat->(Nat->List AV)->List Nat->Prop,k' n get ro->sq o v sz k':=by
 unfold sq at h⊢;cases v with
 |isl n sz' get=>exact⟨_,_,_,(bS h).1,λ_ q=>(bS h).2 _ q⟩
 |osl id n=>
  dsimp only at h⊢;generalize o id=g at h⊢;rcases g with _|ob
  ·exact h.elim
  ·cases ob with
   |arr n sz' get T=>
    dsimp only at h⊢;obtain⟨⟨h1,h2⟩,h3⟩:=bS h;exact⟨_,_,_,h2,λ_ q=>h3 _ ⟨h1,q⟩⟩
   |_=>exact h.elim
 |nils=>exact⟨_,_,_,h,λ_ q=>q⟩
 |_=>exact h.elim
theorem wW{T:Tab}{ti:TI}{pid:List Nat}{o:Xd}{d:Nat}{dst src:AV}{k:List Nat->Nat->Xb->Prop}(h:lS T ti pid o d dst src k) :
  ∃ro n wo,k ro n wo/\∀k':List Nat->Nat->Xb->Prop,k' ro n wo->lS T ti pid o d dst src k':=by
 unfold lS at h⊢;generalize ti.tk=tk at h⊢;cases tk with
 |slice e =>
  dsimp only at h⊢;generalize luT T e=g at h⊢;cases g with
  |none=>exact h.elim
  |some te=>
   dsimp only at h⊢;cases dst with
   |nils=>
    dsimp only at h⊢;obtain⟨h1,h2⟩:=bS h;obtain⟨n,get,ro,⟨h3,h4⟩,h5⟩:=kK h1;exact⟨_,_,_,h4,λ_ q=>h2 _ (h5 _ ⟨h3,q⟩)⟩
   |emp=>
    dsimp only at h⊢;obtain⟨h1,h2⟩:=bS h;obtain⟨n,get,ro,⟨h3,h4⟩,h5⟩:=kK h1;exact⟨_,_,_,h4,λ_ q=>h2 _ (h5 _ ⟨h3,q⟩)⟩
   |icap n sz1 get1=>
    dsimp only at h⊢;obtain⟨h1,h2⟩:=bS h;obtain⟨n,get,ro,⟨h3,h4⟩,h5⟩:=kK h1;exact⟨_,_,_,h4,λ_ q=>h2 _ (h5 _ ⟨h3,q⟩)⟩
   |osl id n=>
    dsimp only at h⊢;generalize o id=g at h⊢;rcases g with _|ob
    ·exact h.elim
    ·cases ob with
     |arr n sz' get T=>
      dsimp only at h⊢;obtain⟨h1,h2⟩:=bS h;obtain⟨n,get,ro,⟨h3,h4⟩,h5⟩:=kK h1;exact⟨_,_,_,h4,λ_ q=>h2 _ (h5 _ ⟨h3,q⟩)⟩
     |_=>exact h.elim
   |_=>exact h.elim
 |_=>exact h.elim
theorem As{T:Tab}{ti:TI}{ps:List (Nat×AV)}{k:AV->Prop}(h:qO T ti ps k):∃r,k r/\∀k':AV->Prop,k' r->qO T ti ps k':=by
 unfold qO at h⊢;generalize ti.tk=tk at h⊢;cases tk with
 |struct=>
  dsimp only at h⊢;obtain⟨h1,h2⟩:=bS h;generalize dW (λi=>ti.flds[i]?) ti.zero ps=g at h1 h2⊢;cases g with
  |none=>exact h1.elim
  |some cs=>exact⟨_,h1,λ_ q=>h2 _ q⟩
 |arr n e=>
  dsimp only at h⊢;generalize luT T e=g at h⊢;cases g with
  |none=>exact h.elim
  |some te=>
   dsimp only at h⊢;generalize dW (λi=>some (i*te.size,te.size)) ti.zero ps=g at h⊢;cases g with
   |none=>exact h.elim
   |some cs=>exact⟨_,h,λ_ q=>q⟩
 |_=>exact h.elim
theorem BN{T:Tab}{ti:TI}{l c:AV}{k:Nat->LObj->Prop}(h:Ad T ti l c k):∃n ob,k n ob/\∀k':Nat->LObj->Prop,k' n ob->Ad T ti l c k':=by
 unfold Ad at h⊢;generalize ti.tk=tk at h⊢;cases tk with
 |slice e=>
  dsimp only at h⊢;generalize luT T e=g at h⊢;cases g with
  |none=>exact h.elim
  |some te=>
   dsimp only at h⊢;split at h
   ·obtain⟨⟨h1,h2⟩,h3⟩:=bS h;exact⟨_,_,h2,λ_ q=>h3 _ ⟨h1,q⟩⟩
   ·exact h.elim
 |_=>exact h.elim
theorem EU{T:Tab}{ti:TI}{len:Nat}{ps:List (Nat×AV)}{k:LObj->Prop}(h:vLit T ti len ps k):∃r,k r/\∀k':LObj->Prop,k' r->vLit T ti len ps k':=by
 unfold vLit at h⊢;generalize ti.tk=tk at h⊢;cases tk with
 |slice e=>
  dsimp only at h⊢;generalize luT T e=g at h⊢;cases g with
  |none=>exact h.elim
  |some te=>
   dsimp only at h⊢;obtain⟨h1,h2⟩:=bS h;generalize dW (λi=>some (i*te.size,te.size)) (repL len te.zero) ps=g at h1 h2⊢;cases g with
   |none=>exact h1.elim
   |some cs=>exact⟨_,h1,λ_ q=>h2 _ q⟩
 |_=>exact h.elim
theorem wX{T:Tab}{ti:TI}{o:Xd}{m key:AV}{ok:Bool}{k:List Nat->AV->Prop}(h:lV T ti o m key ok k):∃ro r,k ro r/\∀k':List Nat->AV->Prop,k' ro r->lV T ti o m key ok k':=by
 unfold lV at h⊢;generalize ti.tk=tk at h⊢;cases tk with
 |map kt et =>
  dsimp only at h⊢;generalize luT T kt=g1 at h⊢;generalize luT T et=g2 at h⊢;cases g1 with
  |none=>exact h.elim
  |some tk =>
   cases g2 with
   |none=>exact h.elim
   |some te =>
    dsimp only at h⊢;generalize te.zero=z at h⊢;split at h
    ·cases m with
     |mref id=>
      dsimp only at h⊢;generalize o id=g at h⊢;rcases g with _|ob
      ·exact h.elim
      ·cases ob with
       |map kvs=>
        dsimp only at h⊢;obtain⟨⟨r,h1,h2⟩,h3⟩:=bS h;exact⟨_,_,h2,λ_ q=>h3 _ ⟨r,h1,q⟩⟩
       |_=>exact h.elim
     |_=>exact h.elim
    ·exact h.elim
 |_=>exact h.elim
theorem oo{T:Tab}{ti:TI}{o:Xd}{m key v:AV}{k:Nat->LObj->Prop}(h:kg T ti o m key v k):∃id ob,k id ob/\∀k':Nat->LObj->Prop,k' id ob->kg T ti o m key v k':=by
 unfold kg at h⊢;generalize ti.tk=tk at h⊢;cases tk with
 |map kt et=>
  dsimp only at h⊢;generalize luT T kt=g1 at h⊢;cases g1 with
  |none=>exact h.elim
  |some tk=>
   dsimp only at h⊢;cases m with
   |mref id=>
    dsimp only at h⊢;generalize o id=g at h⊢;rcases g with _|ob
    ·exact h.elim
    ·cases ob with
     |map kvs=>
      dsimp only at h⊢;obtain⟨⟨r,h1,h2⟩,h3⟩:=bS h;exact⟨_,_,h2,λ_ q=>h3 _ ⟨r,h1,q⟩⟩
     |_=>exact h.elim
   |_=>exact h.elim
 |_=>exact h.elim
theorem At{x ix:AV}{k:AV->Prop}(h:qQ x ix k):∃r,k r/\∀k':AV->Prop,k' r->qQ x ix k':=by
 unfold qQ at h⊢;split at h
 ·exact⟨_,h.2,λ_ q=>⟨h.1,q⟩⟩
 ·exact h.elim
theorem Au{T:Tab}{ti:TI}{o:Xd}{x:AV}{k:Nat->LObj->Prop}(h:qR T ti o x k):∃id ob,k id ob/\∀k':Nat->LObj->Prop,k' id ob->qR T ti o x k':=by
 unfold qR at h⊢;split at h
 ·rename_i e _;generalize luT T e=ge at h⊢;rcases ge with _|te
  ·exact h.elim
  ·cases x with
   |osub id off n sz=>
    dsimp only at h⊢;generalize o id=g at h⊢;rcases g with _|ob
    ·exact h.elim
    ·cases ob with
     |arr m sz' get e'=>
      dsimp only at h⊢;obtain⟨⟨h1,h2⟩,h4⟩:=bS h;exact⟨_,_,h2,λ_ q=>h4 _ ⟨h1,q⟩⟩
     |_=>exact h.elim
   |_=>exact h.elim
 ·exact h.elim
theorem EV{P:Program}{t:Nat}{ti:TI}{f:Nat}{x:AV}{k:AV->Prop}(h:vFld P t ti f x k):∃r,k r/\∀k':AV->Prop,k' r->vFld P t ti f x k':=by
 unfold vFld at h⊢;generalize ti.tk=tk at h⊢;generalize ti.flds[f]? =g at h⊢;split at h
 ·split at h
  ·split at h
   ·exact h.elim
   ·split at h
    ·exact⟨_,h.2,λ_ q=>⟨h.1,q⟩⟩
    ·exact h.elim
  ·exact h.elim
 ·exact h.elim
theorem oq{P:Program}{f:FuncId}{vs:List AV}{o:Xd}{k:List Nat->AV->Xb->Prop}(h:vCall P f vs o k) :
  ∃ro r wo,k ro r wo/\∀k':List Nat->AV->Xb->Prop,k' ro r wo->vCall P f vs o k':=by
 obtain⟨r,ins,outs,h1,h2,h3,h4⟩:=h;exact⟨_,_,_,h4,λ_ q=>⟨r,ins,outs,h1,h2,h3,q⟩⟩
theorem Av{P:Program}{yid:Nat}{vs:List AV}{o:Xd}{k:List Nat->AV->Xb->Prop}(h:vYield P yid vs o k) :
  ∃ro r wo,k ro r wo/\∀k':List Nat->AV->Xb->Prop,k' ro r wo->vYield P yid vs o k':=by
 obtain⟨r,ins,outs,h1,h2,h3,h4⟩:=h;exact⟨_,_,_,h4,λ_ q=>⟨r,ins,outs,h1,h2,h3,q⟩⟩
theorem EW{P:Program}{t:TypeId}{name:String}{vs:List AV}{o:Xd}{k:List Nat->AV->Xb->Prop}(h:VInv P t name vs o k) :
  ∃ro r wo,k ro r wo/\∀k':List Nat->AV->Xb->Prop,k' ro r wo->VInv P t name vs o k':=by
 obtain⟨f,h1,h2⟩:=h;obtain⟨ro,r,wo,h3,h4⟩:=oq h2;exact⟨_,_,_,h3,λk' q=>⟨f,h1,h4 k' q⟩⟩
section
variable {P:Program} {T:Tab} {X:Frm} {ops:Array Oper}
theorem yz{i:Nat}{o:Oper}{A:St}{k:Eff->Prop}(h:vop1 P T X ops i o A k):∃E,k E/\∀k':Eff->Prop,k' E->vop1 P T X ops i o A k':=by
 unfold vop1 at h⊢;generalize o.op=op at h⊢;cases op with
 |move x=>
  dsimp only at h⊢;generalize opdV A.s x=g at h⊢;cases g with
  |none=>exact h.elim
  |some v=>
   dsimp only at h⊢;generalize gSrc ops i=s at h⊢;cases s with
   |false=>exact⟨_,h,λ_ q=>q⟩
   |true=>
    dsimp only at h⊢;cases v with
    |bool b=>cases b<;>exact⟨_,h,λ_ q=>q⟩
    |_=>exact h.elim
 |assign x=>
  dsimp only at h⊢;generalize opdV A.s x=g at h⊢;cases g with
  |none=>exact h.elim
  |some v=>exact⟨_,h,λ_ q=>q⟩
 |pick c x y=>
  dsimp only at h⊢;generalize opdV A.s c=g at h⊢;rcases g with _|v
  ·exact h.elim
  ·cases v with
   |bool b=>
    dsimp only at h⊢;generalize opdV A.s x=gx at h⊢;generalize opdV A.s y=gy at h⊢;cases b with
    |true=>
     cases gx with
     |none=>exact h.elim
     |some v=>exact⟨_,h,λ_ q=>q⟩
    |false=>
     cases gy with
     |none=>exact h.elim
     |some v=>exact⟨_,h,λ_ q=>q⟩
   |_=>exact h.elim
 |binOp bo t x y t'=>
  dsimp only at h⊢;generalize opdV A.s x=gx at h⊢;generalize opdV A.s y=gy at h⊢;generalize luT T t=gt at h⊢;split at h
  ·obtain⟨r,h1,h2⟩:=BK h;exact⟨_,h1,λ_ q=>h2 _ q⟩
  ·exact h.elim
 |unOp uo t x=>
  dsimp only at h⊢;generalize opdV A.s x=gx at h⊢;cases gx with
  |none=>exact h.elim
  |some v=>
   obtain⟨r,h1,h2⟩:=Hy h;exact⟨_,h1,λ_ q=>h2 _ q⟩
 |convert t t' x=>
  dsimp only at h⊢;generalize opdV A.s x=gx at h⊢;generalize luT T t=gt at h⊢;generalize luT T t'=gt' at h⊢;split at h
  ·obtain⟨r,h1,h2⟩:=BL h;exact⟨_,h1,λ_ q=>h2 _ q⟩
  ·exact h.elim
 |load t p=>
  dsimp only at h⊢;generalize luT T t=gt at h⊢;cases gt with
  |none=>exact h.elim
  |some ti=>
   obtain⟨ro,r,h1,h2⟩:=BM h;exact⟨_,h1,λ_ q=>h2 _ q⟩
 |store t x y=>
  dsimp only at h⊢;generalize luT T t=gt at h⊢;generalize opdV A.s x=gx at h⊢;generalize opdV A.s y=gy at h⊢;split at h
  ·obtain⟨id,ob,h1,h2⟩:=Ao h;exact⟨_,h1,λ_ q=>h2 _ q⟩
  ·exact h.elim
 |fieldAddr t p f=>
  dsimp only at h⊢;generalize luT T t=gt at h⊢;generalize opdV A.s p=gx at h⊢;split at h
  ·obtain⟨r,h1,h2⟩:=Ap h;exact⟨_,h1,λ_ q=>h2 _ q⟩
  ·exact h.elim
 |nilCheck p=>
  dsimp only at h⊢;generalize opdV A.s p=gx at h⊢;cases gx with
  |none=>exact h.elim
  |some v=>
   obtain⟨r,h1,h2⟩:=wT h;exact⟨_,h1,λ_ q=>h2 _ q⟩
 |indexAddr t x ix=>
  dsimp only at h⊢;generalize luT T t=gt at h⊢;generalize opdV A.s x=gx at h⊢;generalize opdV A.s ix=gy at h⊢;split at h
  ·obtain⟨r,h1,h2⟩:=Aq h;exact⟨_,h1,λ_ q=>h2 _ q⟩
  ·exact h.elim
 |slice t x lo hi mx=>
  cases mx with
  |none=>
   dsimp only at h⊢;generalize luT T t=gt at h⊢;generalize opdV A.s x=gx at h⊢;generalize optV A.s lo=gl at h⊢;generalize optV A.s hi=gh at h⊢;split at h
   ·obtain⟨ro,r,h1,h2⟩:=wU h;exact⟨_,h1,λ_ q=>h2 _ q⟩
   ·exact h.elim
  |some mx =>
   cases lo with
   |some lo=>exact h.elim
   |none=>
    cases hi with
    |none=>exact h.elim
    |some hi=>
     dsimp only at h⊢;generalize luT T t=gt at h⊢;generalize opdV A.s x=gx at h⊢;generalize opdV A.s hi=gl at h⊢;generalize opdV A.s mx=gh at h⊢;split at h
     ·rename_i ti v vh vm;generalize htk:ti.tk=tk at h;cases tk with
      |slice e=>
       dsimp only at h;obtain⟨h1,h2⟩:=bS h;obtain⟨r,h3,h4⟩:=wV h1;exact⟨_,h3,λ_ q=>h2 _ (h4 _ q)⟩
      |_=>exact h.elim
     ·exact h.elim
 |extract x j=>
  dsimp only at h⊢;generalize opdV A.s x=gx at h⊢;cases gx with
  |none=>exact h.elim
  |some v=>
   obtain⟨r,h1,h2⟩:=uE h;exact⟨_,h1,λ_ q=>h2 _ q⟩
 |makeFunc fn fs caps=>
  cases fn with
  |func f=>
   dsimp only at h⊢;generalize fs.toList=l at h⊢;generalize cU A.s caps.toList=g at h⊢;split at h
   ·exact⟨_,h,λ_ q=>q⟩
   ·exact h.elim
  |_=>exact h.elim
 |alloc t=>
  dsimp only at h⊢;generalize luT T t=gt at h⊢;generalize o.dst=gd at h⊢;split at h
  ·obtain⟨h1,h2⟩:=bS h;exact⟨_,h1,λ_ q=>h2 _ q⟩
  ·exact h.elim
 |box t x=>
  dsimp only at h⊢;generalize opdV A.s x=gx at h⊢;generalize o.dst=gd at h⊢;split at h
  ·obtain⟨h1,h2⟩:=bS h;obtain⟨cs,h3,h4⟩:=ET h1;exact⟨_,h3,λ_ q=>h2 _ (h4 _ q)⟩
  ·exact h.elim
 |build t parts=>
  dsimp only at h⊢;generalize luT T t=gt at h⊢;generalize f9 A.s parts.toList=gp at h⊢;split at h
  ·obtain⟨r,h1,h2⟩:=As h;exact⟨_,h1,λ_ q=>h2 _ q⟩
  ·exact h.elim
 |buildSlice t len parts=>
  dsimp only at h⊢;generalize luT T t=gt at h⊢;generalize f9 A.s parts.toList=gp at h⊢;generalize o.dst=gd at h⊢;split at h
  ·obtain⟨h1,h2⟩:=bS h;obtain⟨cs,h3,h4⟩:=EU h1;exact⟨_,h3,λ_ q=>h2 _ (h4 _ q)⟩
  ·exact h.elim
 |makeSlice t x y=>
  dsimp only at h⊢;generalize luT T t=gt at h⊢;generalize opdV A.s x=gx at h⊢;generalize opdV A.s y=gy at h⊢;generalize o.dst=gd at h⊢;split at h
  ·obtain⟨h1,h2⟩:=bS h;obtain⟨n,ob,h3,h4⟩:=BN h1;exact⟨_,h3,λ_ q=>h2 _ (h4 _ q)⟩
  ·exact h.elim
 |call c=>
  obtain⟨callee,args,argTypes⟩:=c;cases callee with
  |builtin b=>
   cases b with
   |len =>
    dsimp only at h⊢;generalize args.toList=l1 at h⊢;generalize argTypes.toList=l2 at h⊢;split at h
    ·rename_i x t;generalize luT T t=gt at h⊢;generalize opdV A.s x=gx at h⊢;split at h
     ·obtain⟨r,h1,h2⟩:=ES h;exact⟨_,h1,λ_ q=>h2 _ q⟩
     ·exact h.elim
    ·exact h.elim
   |max=>
    dsimp only at h⊢;generalize cU A.s args.toList=gx at h⊢;cases gx with
    |none=>exact h.elim
    |some vs=>
     obtain⟨r,h1,h2⟩:=yy h;exact⟨_,h1,λ_ q=>h2 _ q⟩
   |min=>
    dsimp only at h⊢;generalize cU A.s args.toList=gx at h⊢;cases gx with
    |none=>exact h.elim
    |some vs=>
     obtain⟨r,h1,h2⟩:=yy h;exact⟨_,h1,λ_ q=>h2 _ q⟩
   |append=>
    dsimp only at h⊢;generalize args.toList=l1 at h⊢;generalize argTypes.toList=l2 at h⊢;generalize o.dst=gd at h⊢;split at h
    ·rename_i x y t t' d;generalize luT T t=gt at h⊢;generalize opdV A.s x=gx at h⊢;generalize opdV A.s y=gy at h⊢;split at h
     ·obtain⟨h1,h2⟩:=bS h;obtain⟨ro,n,wo,h3,h4⟩:=wW h1;exact⟨_,h3,λ_ q=>h2 _ (h4 _ q)⟩
     ·exact h.elim
    ·exact h.elim
   |clear=>
    dsimp only at h⊢;generalize args.toList=l1 at h⊢;generalize argTypes.toList=l2 at h⊢;split at h
    ·rename_i x t;generalize luT T t=gt at h⊢;generalize opdV A.s x=gx at h⊢;split at h
     ·obtain⟨id,ob,h1,h2⟩:=Au h;exact⟨_,h1,λ_ q=>h2 _ q⟩
     ·exact h.elim
    ·exact h.elim
   |_=>exact h.elim
  |value v=>
   cases v with
   |func f=>
    dsimp only at h⊢;generalize cU A.s args.toList=gx at h⊢;cases gx with
    |none=>exact h.elim
    |some vs=>
     obtain⟨ro,r,wo,h1,h2⟩:=oq h;exact⟨_,h1,λ_ q=>h2 _ q⟩
   |tmp t=>
    dsimp only at h⊢;generalize A.s t=gt at h⊢;generalize cU A.s args.toList=gx at h⊢;split at h
    ·obtain⟨ro,r,wo,h1,h2⟩:=oq h;exact⟨_,h1,λ_ q=>h2 _ q⟩
    ·obtain⟨ro,r,wo,h1,h2⟩:=Av h;exact⟨_,h1,λ_ q=>h2 _ q⟩
    ·exact h.elim
   |_=>exact h.elim
  |invoke x name=>
   dsimp only at h⊢;generalize opdV A.s x=gx at h⊢;generalize cU A.s args.toList=gv at h⊢;split at h
   ·obtain⟨ro,r,wo,h1,h2⟩:=EW h;exact⟨_,h1,λ_ q=>h2 _ q⟩
   ·exact h.elim
 |makeMap t hint=>
  cases hint with
  |some _=>exact h.elim
  |none=>
   dsimp only at h⊢;generalize o.dst=gd at h⊢;cases gd with
   |none=>exact h.elim
   |some d=>
    obtain⟨h1,h2⟩:=bS h;exact⟨_,h1,λ_ q=>h2 _ q⟩
 |lookup t x y ok=>
  dsimp only at h⊢;generalize luT T t=gt at h⊢;generalize opdV A.s x=gx at h⊢;generalize opdV A.s y=gy at h⊢;split at h
  ·obtain⟨ro,r,h1,h2⟩:=wX h;exact⟨_,h1,λ_ q=>h2 _ q⟩
  ·exact h.elim
 |mapUpdate t x y z=>
  dsimp only at h⊢;generalize luT T t=gt at h⊢;generalize opdV A.s x=gx at h⊢;generalize opdV A.s y=gy at h⊢;generalize opdV A.s z=gz at h⊢;split at h
  ·obtain⟨id,ob,h1,h2⟩:=oo h;exact⟨_,h1,λ_ q=>h2 _ q⟩
  ·exact h.elim
 |insert t x y z=>
  dsimp only at h⊢;generalize luT T t=gt at h⊢;generalize opdV A.s x=gx at h⊢;generalize opdV A.s y=gy at h⊢;generalize opdV A.s z=gz at h⊢;split at h
  ·obtain⟨id,ob,h1,h2⟩:=oo h;exact⟨_,h1,λ_ q=>h2 _ q⟩
  ·exact h.elim
 |index t x y=>
  dsimp only at h⊢;generalize luT T t=gt at h⊢;generalize opdV A.s x=gx at h⊢;generalize opdV A.s y=gy at h⊢;split at h
  ·rename_i ti u v;generalize htk:ti.tk=tk at h;cases tk with
   |str=>
    dsimp only at h;obtain⟨r,h1,h2⟩:=At h;exact⟨_,h1,λ_ q=>h2 _ q⟩
   |_=>exact h.elim
  ·exact h.elim
 |makeInterface t x=>
  dsimp only at h⊢;generalize luT T t=gt at h⊢;generalize opdV A.s x=gx at h⊢;split at h
  ·obtain⟨h1,h2⟩:=bS h;exact⟨_,h1,λ_ q=>h2 _ q⟩
  ·exact h.elim
 |field t x f=>
  dsimp only at h⊢;generalize luT T t=gt at h⊢;generalize opdV A.s x=gx at h⊢;split at h
  ·obtain⟨r,h1,h2⟩:=EV h;exact⟨_,h1,λ_ q=>h2 _ q⟩
  ·exact h.elim
 |_=>exact h.elim
theorem y5{i:Nat}{o:Oper}{A:St}{k:Eff->Prop}(h:vopG P T X ops i o A k):∃E,k E/\∀k':Eff->Prop,k' E->vopG P T X ops i o A k':=by
 unfold vopG at h⊢;generalize dOk X.nt o=b at h⊢;cases b with
 |false=>exact h.elim
 |true=>
  dsimp only at h⊢;generalize o.guard=g at h⊢;rcases g with _|⟨j,want⟩
  ·exact yz h
  ·dsimp only at h⊢;generalize ops[j]? =p at h⊢;rcases p with _|p
   ·exact h.elim
   ·dsimp only at h⊢;generalize p.dst=d at h⊢;rcases d with _|t
    ·exact h.elim
    ·dsimp only at h⊢;generalize hs:A.s t=s at h;split at h
     ·rename_i b;generalize hw:(b==want)=c at h;cases c with
      |true=>
       obtain⟨E,h1,h2⟩:=yz h;exact⟨E,h1,λk' q=>h2 k' q⟩
      |false=>
       exact⟨_,h,λk' q=>q⟩
     ·exact⟨_,h,λk' q=>q⟩
     ·exact h.elim
theorem y6{wo objs:Xb}{k:Xb->Prop}(h:catO wo objs k):∃r,k r/\∀k':Xb->Prop,k' r->catO wo objs k':=by
 unfold catO at h⊢;split at h<;>exact⟨_,h,λ_ q=>q⟩
theorem y7{env:List (Nat×AV)}{objs:Xb}{E:Eff}{k:St->Prop}(h:appK env objs E k):∃B,k B/\∀k':St->Prop,k' B->appK env objs E k':=by
 obtain⟨rs,ro,ws,wo⟩:=E;unfold appK at h⊢;rcases ws with _|⟨d,v⟩
 ·obtain⟨r,h1,h2⟩:=y6 h;exact⟨_,h1,λ_ q=>h2 _ q⟩
 ·obtain⟨r,h1,h2⟩:=y6 h;exact⟨_,h1,λ_ q=>h2 _ q⟩
theorem y8:∀(l:List Oper) (i:Nat) (A:St) (K:St->Prop),vops P T X ops l i A K->∃B,K B/\∀K':St->Prop,K' B->vops P T X ops l i A K'
 |[],_,A,_,h=>⟨A,h,λ_ q=>q⟩
 |o::r,i,⟨env,objs⟩,K,h=>by
  simp only[vops]at h;obtain⟨E,h1,h2⟩:=y5 h;obtain⟨B,h3,h4⟩:=y7 h1;obtain⟨C,h5,h6⟩:=y8 r (i+1) B K h3;exact⟨C,h5,λK' q=>by simp only[vops];exact h2 _ (h4 _ (h6 K' q))⟩
theorem uF:∀(l:List Oper) (i:Nat) (A:St) (acc:List (Nat×Eff)) (K:St->Prop),kn P T X ops l i A acc K->∃B,K B/\∀K':St->Prop,K' B->kn P T X ops l i A acc K'
 |[],_,A,_,_,h=>⟨A,h.2,λ_ q=>⟨h.1,q⟩⟩
 |o::r,i,⟨env,objs⟩,acc,K,h=>by
  simp only[kn]at h;obtain⟨E,h1,h2⟩:=y5 h;obtain⟨B,h3,h4⟩:=y7 h1;obtain⟨C,h5,h6⟩:=uF r (i+1) B _ K h3;exact⟨C,h5,λK' q=>by simp only[kn];exact h2 _ (h4 _ (h6 K' q))⟩
end
section
variable {P:Program} {T:Tab} {ops:Array Oper}
def frE(pid:List Nat)(nt:Nat):Frm:=⟨⟨default,none⟩,λ_=>False,pid,λ_=>(none,0),nt⟩
theorem GR(pid:List Nat)(nt:Nat)(w0:World0)(Im0:Nat->Prop)(ρ0:Loc)(i:Nat)(o:Oper)(A:St)(k:Eff->Prop):vopG P T (frE pid nt) ops i o A k=vopG P T ⟨w0,Im0,pid,ρ0,nt⟩ ops i o A k:=rfl
theorem GS(pid:List Nat)(nt:Nat)(w0:World0)(Im0:Nat->Prop)(ρ0:Loc):∀(l:List Oper) (i:Nat) (A:St) (K:St->Prop),vops P T (frE pid nt) ops l i A K=vops P T ⟨w0,Im0,pid,ρ0,nt⟩ ops l i A K
 |[],_,_,_=>rfl
 |o::r,i,⟨env,objs⟩,K=>by
  simp only[vops];rw[GR pid nt w0 Im0 ρ0];have e:∀B,vops P T (frE pid nt) ops r (i+1) B K=vops P T ⟨w0,Im0,pid,ρ0,nt⟩ ops r (i+1) B K:=λB=>GS pid nt w0 Im0 ρ0 r (i+1) B K;simp only[e]
theorem BO(pid:List Nat)(nt:Nat)(w0:World0)(Im0:Nat->Prop)(ρ0:Loc):∀(l:List Oper) (i:Nat) (A:St) (acc:List (Nat×Eff)) (K:St->Prop),kn P T (frE pid nt) ops l i A acc K=kn P T ⟨w0,Im0,pid,ρ0,nt⟩ ops l i A acc K
 |[],_,_,_,_=>rfl
 |o::r,i,⟨env,objs⟩,acc,K=>by
  simp only[kn];rw[GR pid nt w0 Im0 ρ0];have e:∀B acc,kn P T (frE pid nt) ops r (i+1) B acc K=kn P T ⟨w0,Im0,pid,ρ0,nt⟩ ops r (i+1) B acc K:=λB acc=>BO pid nt w0 Im0 ρ0 r (i+1) B acc K;simp only[e]
end
section
variable {P:Program}
structure GoodE(P:Program)(pid:List Nat)(nt:Nat)(c:Code)(A:St)(K:Exit->St->Prop):Prop where
 ex:∃e B,K e B/\∀w0 Im0 ρ0,GoodS P ⟨w0,Im0,pid,ρ0,nt⟩ c A (λe' B'=>e'=e/\B'=B)
structure LoopE(P:Program)(pid:List Nat)(nt:Nat)(c:Code)(A:St)(K:Exit->St->Prop):Prop where
 good:GoodE P pid nt c A K
def seqE(P:Program)(pid:List Nat)(nt:Nat)(b:Code)(K:Exit->St->Prop):Exit->St->Prop
 |.normal,B=>GoodE P pid nt b B K
 |e,B=>K e B
def scopeK(K:Exit->St->Prop):Exit->St->Prop
 |.goto _,_=>False
 |e,B=>K e B
def vcE(P:Program)(T:Tab)(pid:List Nat)(nt:Nat):Code->St->(Exit->St->Prop)->Prop
 |.skip,A,K=>K .normal A
 |.region _ ops false,A,K=>vops P T (frE pid nt) ops ops.toList 0 A (K .normal)
 |.region _ ops true,A,K=>kn P T (frE pid nt) ops ops.toList 0 A [] (K .normal)
 |.seq a b,A,K=>vcE P T pid nt a A (seqE P pid nt b K)
 |.cond c x y,A,K=>match opdV A.s c with
  |some (.bool b)=>fork b (GoodE P pid nt x A K) (GoodE P pid nt y A K)
  |_=>False
 |.block id c,A,K=>vcE P T pid nt c A (yr id K)
 |.exit id,A,K=>K (.exit id) A
 |.ret,A,K=>K .ret A
 |.label _,A,K=>K .normal A
 |.scope c,A,K=>vcE P T pid nt c A (scopeK K)
 |c,A,K=>LoopE P pid nt c A K
theorem EX{T:Tab}(hm:P.follows .mixedOrders=true)(hT:fJ P T){pid:List Nat}{nt:Nat}{c:Code}{A:St}{K:Exit->St->Prop}(h:vcE P T pid nt c A K):GoodE P pid nt c A K:=by
 induction c generalizing A K with
 |skip=>exact⟨_,_,h,λw0 Im0 ρ0=>⟨λa w hr=>wpIn_skip ⟨A,⟨rfl,rfl⟩,hr⟩⟩⟩
 |region id ops draw=>
  cases draw with
  |false=>
   obtain⟨B,h1,h2⟩:=y8 _ _ _ _ h;refine⟨.normal,B,h1,λw0 Im0 ρ0=>wO hm hT (T:=T) ?_⟩;show vops P T ⟨w0,Im0,pid,ρ0,nt⟩ ops ops.toList 0 A _;rw[<-GS];exact h2 _ ⟨rfl,rfl⟩
  |true=>
   obtain⟨B,h1,h2⟩:=uF _ _ _ _ _ h;refine⟨.normal,B,h1,λw0 Im0 ρ0=>wO hm hT (T:=T) ?_⟩;show kn P T ⟨w0,Im0,pid,ρ0,nt⟩ ops ops.toList 0 A [] _;rw[<-BO];exact h2 _ ⟨rfl,rfl⟩
 |seq x y ihx _=>
  obtain⟨e,B,h1,h2⟩:=ihx h;cases e with
  |normal=>
   obtain⟨e2,B2,h3,h4⟩:=h1;refine⟨e2,B2,h3,λw0 Im0 ρ0=>⟨λa w hr=>wpIn_seq (Go.wpIn_mono ((h2 w0 Im0 ρ0).run a w hr) λe' a' w'=>?_)⟩⟩;rintro⟨B',⟨rfl,rfl⟩,hr'⟩;exact(h4 w0 Im0 ρ0).run a' w' hr'
  |_=>
   refine⟨_,B,h1,λw0 Im0 ρ0=>⟨λa w hr=>wpIn_seq (Go.wpIn_mono ((h2 w0 Im0 ρ0).run a w hr) λe' a' w'=>?_)⟩⟩;rintro⟨B',⟨rfl,rfl⟩,hr'⟩;exact⟨_,⟨rfl,rfl⟩,hr'⟩
 |cond c x y _ _=>
  simp only[vcE]at h;generalize hc:opdV A.s c=g at h;rcases g with _|v
  ·exact h.elim
  ·cases v with
   |bool b=>
    have key:∀w0 Im0 ρ0 a w,Rel ⟨w0,Im0,pid,ρ0,nt⟩ A.s A.o a w->a.eval c=.bool b:=by
     rintro w0 Im0 ρ0 a w ⟨ρ,Im,hr'⟩;exact(hr'.opd hc).bool_inv
    cases b with
    |true=>
     obtain⟨e,B,h1,h2⟩:=h;exact⟨e,B,h1,λw0 Im0 ρ0=>⟨λa w hr=>wpIn_cond_split (key _ _ _ _ _ hr) (λ_=>(h2 w0 Im0 ρ0).run a w hr) (λhf=>by cases hf)⟩⟩
    |false=>
     obtain⟨e,B,h1,h2⟩:=h;exact⟨e,B,h1,λw0 Im0 ρ0=>⟨λa w hr=>wpIn_cond_split (key _ _ _ _ _ hr) (λhf=>by cases hf) (λ_=>(h2 w0 Im0 ρ0).run a w hr)⟩⟩
   |_=>exact h.elim
 |block id c ih=>
  obtain⟨e,B,h1,h2⟩:=ih h;cases e with
  |exit i=>
   simp only[yr]at h1;split at h1
   ·rename_i hb;refine⟨.normal,B,h1,λw0 Im0 ρ0=>⟨λa w hr=>wpIn_block (Go.wpIn_mono ((h2 w0 Im0 ρ0).run a w hr) λe' a' w'=>?_)⟩⟩;rintro⟨B',⟨rfl,rfl⟩,hr'⟩;simp only[Exit.inBlock];rw[if_pos (Nat.eq_of_beq_eq_true hb)];exact⟨_,⟨by trivial,rfl⟩,hr'⟩
   ·rename_i hb;refine⟨.exit i,B,h1,λw0 Im0 ρ0=>⟨λa w hr=>wpIn_block (Go.wpIn_mono ((h2 w0 Im0 ρ0).run a w hr) λe' a' w'=>?_)⟩⟩;rintro⟨B',⟨rfl,rfl⟩,hr'⟩;simp only[Exit.inBlock];rw[if_neg (λe=>by rw[e,Nat.beq_refl]at hb;cases hb)];exact⟨_,⟨by trivial,rfl⟩,hr'⟩
  |_=>
   refine⟨_,B,h1,λw0 Im0 ρ0=>⟨λa w hr=>wpIn_block (Go.wpIn_mono ((h2 w0 Im0 ρ0).run a w hr) λe' a' w'=>?_)⟩⟩;rintro⟨B',⟨rfl,rfl⟩,hr'⟩;exact⟨_,⟨rfl,rfl⟩,hr'⟩
 |exit id=>exact⟨_,_,h,λw0 Im0 ρ0=>⟨λa w hr=>wpIn_exit ⟨A,⟨rfl,rfl⟩,hr⟩⟩⟩
 |ret=>exact⟨_,_,h,λw0 Im0 ρ0=>⟨λa w hr=>wpIn_ret ⟨A,⟨rfl,rfl⟩,hr⟩⟩⟩
 |label l=>exact⟨_,_,h,λw0 Im0 ρ0=>⟨λa w hr=>wpIn_label ⟨A,⟨rfl,rfl⟩,hr⟩⟩⟩
 |scope c ih=>
  obtain⟨e,B,h1,h2⟩:=ih h;cases e with
  |goto l=>exact h1.elim
  |_=>
   refine⟨_,B,h1,λw0 Im0 ρ0=>⟨λa w hr=>Ak (Go.wpIn_mono ((h2 w0 Im0 ρ0).run a w hr) λe' a' w'=>?_)⟩⟩;rintro⟨B',⟨rfl,rfl⟩,hr'⟩;exact⟨_,⟨rfl,rfl⟩,hr'⟩
 |_=>exact h.good
def cr(pid:List Nat)(nt:Nat)(A B:St):Prop:=∀w0 Im0 ρ0,Ghost ⟨w0,Im0,pid,ρ0,nt⟩ A B
theorem cr.rfl{pid:List Nat}{nt:Nat}{A:St}:cr pid nt A A:=λ_ _ _=>Ghost.rfl
theorem cr.trans{pid:List Nat}{nt:Nat}{A B C:St}(h:cr pid nt A B)(k:cr pid nt B C):cr pid nt A C:=λw0 Im0 ρ0=>(h w0 Im0 ρ0).trans (k w0 Im0 ρ0)
theorem dP{pid:List Nat}{nt:Nat}(re:List (Nat×Nat)){A B:St}(h:Sub (frE pid nt) re A B):cr pid nt A B:=λ_ _ _=>hU re h
theorem mh{pid:List Nat}{nt:Nat}{A:St}(id:Nat){ob:LObj}(hob:luB A.objs id=some ob)(hp:pid.elem id=false)(him:imOf ob)(hc:sC id ob A.env)(hoc:jT id ob A.objs):cr pid nt A (A.frz id ob):=λ_ _ _=>oh id hob hp him hc hoc
theorem bL{pid:List Nat}{nt:Nat}{c:Code}{A B:St}{K:Exit->St->Prop}(hg:cr pid nt A B)(h:GoodE P pid nt c B K):GoodE P pid nt c A K:=by
 obtain⟨e,C,h1,h2⟩:=h;exact⟨e,C,h1,λw0 Im0 ρ0=>hZ (hg w0 Im0 ρ0) (h2 w0 Im0 ρ0)⟩
def GT(pid:List Nat)(nt:Nat){ι:Type}(F:ι->St)(μ:ι->Nat)(i:ι)(K:Exit->St->Prop):Exit->St->Prop
 |.normal,B=>∃j,cr pid nt B (F j)/\μ j<μ i
 |e,B=>K e B
theorem mi{pid:List Nat}{nt:Nat}{c:Code}{A:St}{K:Exit->St->Prop}{ι:Type}(F:ι->St)(μ:ι->Nat)(i0:ι)(h0:cr pid nt A (F i0))(h:∀i,GoodE P pid nt c (F i) (GT pid nt F μ i K)):LoopE P pid nt (.loop c) A K:=by
 have key:∀(n:Nat) (i:ι),μ i=n->∃e B,K e B/\∀(w0:World0) Im0 ρ0 a w,Rel ⟨w0,Im0,pid,ρ0,nt⟩ (F i).s (F i).o a w->∀(b:Frame) k (cs:List Frame),b.roundOf=(rf w0.ro).round->(rf w0.ro).fn b.fn->(rf w0.ro).room (cs.length+1+0)->
   ∃a' w',Rel ⟨w0,Im0,pid,ρ0,nt⟩ B.s B.o a' w'/\ArrivesIn (Machine.fenced P (rf w0.ro)) P (lone (b.atR a (.code c::.inLoop c::k)) cs w) b k cs e a' w':=by
  intro n;induction n using Nat.strongRecOn with
  |_ n ih=>
   intro i hn;obtain⟨e,B,h1,h2⟩:=h i;have run:∀(w0:World0) Im0 ρ0 a w,Rel ⟨w0,Im0,pid,ρ0,nt⟩ (F i).s (F i).o a w->∀(b:Frame) k (cs:List Frame),b.roundOf=(rf w0.ro).round->(rf w0.ro).fn b.fn->(rf w0.ro).room (cs.length+1+0)->∃a' w',Rel ⟨w0,Im0,pid,ρ0,nt⟩ B.s B.o a' w'/\ArrivesIn (Machine.fenced P (rf w0.ro)) P (lone (b.atR a (.code c::.inLoop c::k)) cs w) b (.inLoop c::k) cs e a' w':=by
    intro w0 Im0 ρ0 a w hI b k cs hro hb hrm;obtain⟨e',a₁,w₁,⟨B',⟨rfl,rfl⟩,hB⟩,harr⟩:=(h2 w0 Im0 ρ0).run a w hI b (.inLoop c::k) cs hro hb hrm;exact⟨a₁,w₁,hB,harr⟩
   cases e with
   |normal=>
    obtain⟨j,hg,hlt⟩:=h1;obtain⟨e2,B2,h3,h4⟩:=ih (μ j) (hn▸hlt) j _root_.rfl;refine⟨e2,B2,h3,λw0 Im0 ρ0 a w hI b k cs hro hb hrm=>?_⟩;obtain⟨a₁,w₁,hB,harr⟩:=run w0 Im0 ρ0 a w hI b k cs hro hb hrm;obtain⟨a₂,w₂,hB₂,harr₂⟩:=h4 w0 Im0 ρ0 a₁ w₁ ((hg w0 Im0 ρ0).run _ _ hB) b k cs hro hb hrm;exact⟨a₂,w₂,hB₂,.of_steps (StepsIn.trans harr (.one (fenced_calm hb hrm _root_.rfl) stepR_inLoop)) harr₂⟩
   |exit id=>
    refine⟨_,B,h1,λw0 Im0 ρ0 a w hI b k cs hro hb hrm=>?_⟩;obtain⟨a₁,w₁,hB,harr⟩:=run w0 Im0 ρ0 a w hI b k cs hro hb hrm;exact⟨a₁,w₁,hB,.pass (x:=.inLoop c) rfl (λ_ _=>.inl η) harr⟩
   |goto l=>
    refine⟨_,B,h1,λw0 Im0 ρ0 a w hI b k cs hro hb hrm=>?_⟩;obtain⟨a₁,w₁,hB,harr⟩:=run w0 Im0 ρ0 a w hI b k cs hro hb hrm;exact⟨a₁,w₁,hB,.pass (x:=.inLoop c) rfl (λ_ _=>.inl η) harr⟩
   |ret=>
    refine⟨_,B,h1,λw0 Im0 ρ0 a w hI b k cs hro hb hrm=>?_⟩;obtain⟨a₁,w₁,hB,harr⟩:=run w0 Im0 ρ0 a w hI b k cs hro hb hrm;exact⟨a₁,w₁,hB,.pass (x:=.inLoop c) rfl (λ_ _=>.inl η) harr⟩
   |panic ch=>
    refine⟨_,B,h1,λw0 Im0 ρ0 a w hI b k cs hro hb hrm=>?_⟩;obtain⟨a₁,w₁,hB,harr⟩:=run w0 Im0 ρ0 a w hI b k cs hro hb hrm;exact⟨a₁,w₁,hB,.pass (x:=.inLoop c) rfl (λ_ _=>.inl η) harr⟩
   |outgrown=>
    refine⟨_,B,h1,λw0 Im0 ρ0 a w hI b k cs hro hb hrm=>?_⟩;obtain⟨a₁,w₁,hB,harr⟩:=run w0 Im0 ρ0 a w hI b k cs hro hb hrm;exact⟨a₁,w₁,hB,.pass (x:=.inLoop c) rfl (λ_ _=>.inl η) harr⟩
 obtain⟨e,B,h1,h2⟩:=key _ i0 _root_.rfl;refine⟨⟨e,B,h1,λw0 Im0 ρ0=>⟨λa w hr b k cs hro hb hrm=>?_⟩⟩⟩;obtain⟨a',w',hB,harr⟩:=h2 w0 Im0 ρ0 a w ((h0 w0 Im0 ρ0).run a w hr) b k cs hro hb hrm;exact⟨e,a',w',⟨B,⟨rfl,rfl⟩,hB⟩,.of_steps (.one (fenced_calm hb hrm _root_.rfl) stepR_loop) harr⟩
end
section
variable {P:Program} {T:Tab}
theorem jc{A:St}:∀(l:List ResultVar) {k:List AV->Prop},fN T A l k->∃vs,k vs/\∀k':List AV->Prop,k' vs->fN T A l k'
 |[],_,h=>⟨[],h,λ_ q=>q⟩
 |.tmp t::r,k,h=>by
  simp only[fN]at h⊢;generalize luS A.env t=g at h⊢;cases g with
  |none=>exact h.elim
  |some v=>
   obtain⟨vs,h1,h2⟩:=jc r h;exact⟨_,h1,λk' q=>h2 _ q⟩
 |.cell t ty::r,k,h=>by
  simp only[fN]at h⊢;generalize luS A.env t=g at h⊢;generalize luT T ty=gt at h⊢;split at h
  ·obtain⟨cs,off,ro,h1,h2⟩:=mY h;obtain⟨v,h3,h4⟩:=qZ h1;obtain⟨vs,h5,h6⟩:=jc r h3;exact⟨_,h5,λk' q=>h2 _ (h4 _ (h6 _ q))⟩
  ·exact h.elim
structure FinX(T:Tab)(pid:List Nat)(nt:Nat)(rs:List ResultVar){α:Type}(g:α->AV)(outs:α->Xc)(Q:α->Prop)(B:St):Prop where
 ex:∃x,Q x/\∀w0 Im0 ρ0,FinG T ⟨w0,Im0,pid,ρ0,nt⟩ rs (g x) (outs x) B
def FinE(T:Tab)(pid:List Nat)(nt:Nat)(rs:List ResultVar){α:Type}(g:α->AV)(outs:α->Xc)(Q:α->Prop):Exit->St->Prop
 |.normal,B=>FinX T pid nt rs g outs Q B
 |.ret,B=>FinX T pid nt rs g outs Q B
 |_,_=>False
theorem au{T : Tab}(hT : fJ P T){f : FuncId}{fn : Func}(c : Code)(nt : Nat)(rs : List ResultVar)(hf : P.funcs[f]? =some fn)(hb : fn.body=some c)(hname : (fn.name== "runtime.NumGoroutine")=false)(hnt : fn.ntmps=nt)(hrs : fn.results.toList=rs)
  {args:List AV} {ins:Xc} {α:Type} {g:α->AV} {outs:α->Xc} {Q:α->Prop} (hlen:args.length<=nt)
  (hcl:(ins.all λp=>p.2.live)=true/\nmL (ins.map (·.1)) args=true/\(∀p∈ins,obCl (ins.map (·.1)) p.2))
  (hco:∀x,nmV ((outs x).map (·.1)) (g x)=true/\(∀p∈outs x,obCl ((outs x).map (·.1)) p.2)/\(ins.all λp=>((outs x).map (·.1)).elem p.1)=true)
  (h:GoodE P (ins.map (·.1)) nt c ⟨kJ 0 args,bb ins⟩ (FinE T (ins.map (·.1)) nt rs g outs Q)):∃x,Q x/\CallSpec P f args ins (g x) (outs x):=by
 obtain⟨e,B,h1,h2⟩:=h;have key:∀x,Q x->(∀w0 Im0 ρ0,Fin T ⟨w0,Im0,ins.map (·.1),ρ0,nt⟩ rs (g x) (outs x) e B)->∃x,Q x/\CallSpec P f args ins (g x) (outs x):=λx hq hf2=>by
  obtain⟨c1,c2,c3⟩:=hco x;refine⟨x,hq,aU hT c nt rs hf hb hname hnt hrs hlen ⟨hcl.1,hcl.2.1,c1,hcl.2.2,c2,c3⟩ λw0 Im0 ρ0=>(h2 w0 Im0 ρ0).mono ?_⟩;rintro e' B' ⟨rfl,rfl⟩;exact hf2 w0 Im0 ρ0
 cases e with
 |normal=>obtain⟨x,hq,hx⟩:=h1;exact key x hq hx
 |ret=>obtain⟨x,hq,hx⟩:=h1;exact key x hq hx
 |_=>exact h1.elim
theorem ag{pid:List Nat}{nt:Nat}{rs:List ResultVar}{α:Type}{g:α->AV}{Q:α->Prop}{B:St}(h:fN T B rs λvs=>∃x,gn vs=g x/\Q x):FinX T pid nt rs g (λ_=>[]) Q B:=by
 obtain⟨vs,⟨x,h1,h2⟩,h3⟩:=jc rs h;exact⟨x,h2,λw0 Im0 ρ0=>⟨B,Ghost.rfl,h3 _ (by rw[h1];exact Ψ),trivial⟩⟩
theorem aI{pid:List Nat}{nt:Nat}{rs:List ResultVar}{α:Type}{g:α->AV}{outs:α->Xc}{Q:α->Prop}{B:St}(h:fN T B rs λvs=>∃x,gn vs=g x/\dK B.o (outs x)/\Q x):FinX T pid nt rs g outs Q B:=by
 obtain⟨vs,⟨x,h1,h4,h2⟩,h3⟩:=jc rs h;exact⟨x,h2,λw0 Im0 ρ0=>⟨B,Ghost.rfl,h3 _ (by rw[h1];exact Ψ),h4⟩⟩
theorem bg{pid:List Nat}{nt:Nat}{rs:List ResultVar}{α:Type}{g:α->AV}{outs:α->Xc}{Q:α->Prop}{B:St}(ks os:List Nat)(re:List (Nat×Nat))(e:List (Nat×AV))(o:Xb)(h:Sub (frE pid nt) re B (B.kp ks os e o))
  (k:kpK B ks os e o (FinX T pid nt rs g outs Q)):FinX T pid nt rs g outs Q B:=by
 obtain⟨x,hq,hx⟩:=i6 k;refine⟨x,hq,λw0 Im0 ρ0=>?_⟩;obtain⟨C,h1,h2⟩:=hx w0 Im0 ρ0;exact⟨C,(dP re h w0 Im0 ρ0).trans h1,h2⟩
theorem bm{pid:List Nat}{nt:Nat}{rs:List ResultVar}{α:Type}{g:α->AV}{outs:α->Xc}{Q:α->Prop}{B:St}(id:Nat){ob:LObj}(hob:luB B.objs id=some ob)(hp:pid.elem id=false)(him:imOf ob)(hc:sC id ob B.env)(hoc:jT id ob B.objs)
  (k:FinX T pid nt rs g outs Q (B.frz id ob)):FinX T pid nt rs g outs Q B:=by
 obtain⟨x,hq,hx⟩:=k;refine⟨x,hq,λw0 Im0 ρ0=>?_⟩;obtain⟨C,h1,h2⟩:=hx w0 Im0 ρ0;exact⟨C,(mh id hob hp him hc hoc w0 Im0 ρ0).trans h1,h2⟩
theorem cn{pid:List Nat}{nt:Nat}{rs:List ResultVar}{α:Type}{g:α->AV}{Q:α->Prop}{B:St}(h:fN T B rs λvs=>∃x,AvLe (gn vs) (g x)/\Q x):FinX T pid nt rs g (λ_=>[]) Q B:=by
 obtain⟨vs,⟨x,h1,h2⟩,h3⟩:=jc rs h;exact⟨x,h2,λw0 Im0 ρ0=>⟨B,Ghost.rfl,h3 _ h1,trivial⟩⟩
theorem ae{pid:List Nat}{nt:Nat}{c:Code}{A:St}{K:Exit->St->Prop}{ι:Type}(ks os:List Nat)(re0:List (Nat×Nat))(i0:ι)(μ:ι->Nat)(e:ι->List (Nat×AV))(o:ι->Xb)
  (h0:Sub (frE pid nt) re0 A (A.kp ks os (e i0) (o i0))) (h:∀i,kpK A ks os (e i) (o i) λB=>GoodE P pid nt c B (GT pid nt (λi=>A.kp ks os (e i) (o i)) μ i K)):LoopE P pid nt (.loop c) A K :=
 mi (λi=>A.kp ks os (e i) (o i)) μ i0 (dP re0 h0) λi=>i6 (h i)
theorem aR{pid:List Nat}{nt:Nat}{ι:Type}{F:ι->St}{μ:ι->Nat}{m:Nat}{B:St}(re:List (Nat×Nat))(j:ι)(hs:Sub (frE pid nt) re B (F j))(hm:μ j<m):∃j,cr pid nt B (F j)/\μ j<m:=⟨j,dP re hs,hm⟩
theorem az{pid:List Nat}{nt:Nat}{c:Code}{A:St}{K:Exit->St->Prop}(ks os:List Nat)(re:List (Nat×Nat))(e:List (Nat×AV))(o:Xb)(h:Sub (frE pid nt) re A (A.kp ks os e o))(k:kpK A ks os e o λB=>GoodE P pid nt c B K):GoodE P pid nt c A K :=
 bL (dP re h) (i6 k)
theorem a7{pid:List Nat}{nt:Nat}{c:Code}{A:St}{K:Exit->St->Prop}(id:Nat){ob:LObj}(hob:luB A.objs id=some ob)(hp:pid.elem id=false)(him:imOf ob)(hc:sC id ob A.env)(hoc:jT id ob A.objs)(h:GoodE P pid nt c (A.frz id ob) K):GoodE P pid nt c A K :=
 bL (mh id hob hp him hc hoc) h
end
open Go.Proofs in
theorem gvE{pid:List Nat}{nt:Nat}{c:Code}{A:St}{K:Exit->St->Prop}(h:vcE prog T pid nt c A K):GoodE prog pid nt c A K:=EX mixed aC h
open Go.Proofs
theorem bu{p:Prop}(h:p:=by
 first
 |((first|(refine gvE ?_;conv=>whnf)|(refine aa (λhb=>?_) (λhb=>?_)<;>conv=>whnf)|(refine aq (λhb=>?_) (λhb=>?_)<;>conv=>whnf)|(refine ag ?_;conv=>whnf)|(refine Side.mk ?_ ?_;rotate_left;conv=>whnf)|(refine SubS.mk ?_ ?_;rotate_left;conv=>whnf)|(refine VCells.mk ⟨_,rfl,?_⟩;conv=>whnf)|(refine DrawOk.mk ⟨rfl,rfl⟩ ?_;conv=>whnf)|(refine aA (λhb=>?_) (λhb=>?_)<;>conv=>whnf)|fail);all_goals(rcases qY _ rfl with hq;exact hq))
 |fail):p:=h
theorem EY{p:Prop}(h:p:=by
 first
 |((first|(refine gvE ?_;conv=>whnf)|(refine aa (λhb=>?_) (λhb=>?_)<;>conv=>whnf)|(refine aq (λhb=>?_) (λhb=>?_)<;>conv=>whnf)|(refine aI ?_;conv=>whnf)|(refine Side.mk ?_ ?_;rotate_left;conv=>whnf)|(refine SubS.mk ?_ ?_;rotate_left;conv=>whnf)|(refine VCells.mk ⟨_,rfl,?_⟩;conv=>whnf)|(refine DrawOk.mk ⟨rfl,rfl⟩ ?_;conv=>whnf)|(refine aA (λhb=>?_) (λhb=>?_)<;>conv=>whnf)|fail);all_goals(rcases qY _ rfl with hq;exact hq))
 |fail):p:=h
theorem aj{p:Prop}(h:p:=by
 first
 |((first|(refine gvE ?_;conv=>whnf)|(refine aa (λhb=>?_) (λhb=>?_)<;>conv=>whnf)|(refine aq (λhb=>?_) (λhb=>?_)<;>conv=>whnf)|(refine Side.mk ?_ ?_;rotate_left;conv=>whnf)|(refine SubS.mk ?_ ?_;rotate_left;conv=>whnf)|(refine VCells.mk ⟨_,rfl,?_⟩;conv=>whnf)|(refine DrawOk.mk ⟨rfl,rfl⟩ ?_;conv=>whnf)|(refine aA (λhb=>?_) (λhb=>?_)<;>conv=>whnf)|fail);all_goals(rcases qY _ rfl with hq;exact hq))
 |fail):p:=h
theorem opE{f:FuncId}{fn:Func}{c:Code}{nt:Nat}{rs:List ResultVar}{args:List AV}{ins:Xc}{α:Type}{g:α->AV}{outs:α->Xc}{Q:α->Prop}(hf:prog.funcs[f]? =some fn)(hnt:fn.ntmps=nt)(hrs:fn.results=rs.toArray)
  (h : GoodE prog (ins.map (·.1)) nt c ⟨kJ 0 args, bb ins⟩ (FinE T (ins.map (·.1)) nt rs g outs Q)) (hb : fn.body=some c := by exact rfl) (hname : (fn.name== "runtime.NumGoroutine")=false := by kernel_rfl) (hlen : args.length≤nt := by simp)
  (hcl:(ins.all λp=>p.2.live)=true/\nmL (ins.map (·.1)) args=true/\(∀p∈ins,obCl (ins.map (·.1)) p.2):=by exact⟨rfl,rfl,by simp⟩)
  (hco:∀x,nmV ((outs x).map (·.1)) (g x)=true/\(∀p∈outs x,obCl ((outs x).map (·.1)) p.2)/\(ins.all λp=>((outs x).map (·.1)).elem p.1)=true:=by exactλx=>⟨rfl,by simp,rfl⟩):∃x,Q x/\q0c f args ins (g x) (outs x) :=
 au aC c nt rs hf hb hname hnt (by rw[hrs]) hlen hcl hco h
mutual
theorem cC:∀v:AV,reV (luN []) v=v
 |.fn g cs=>by unfold reV;rw[reL_id cs]
 |.agg cs=>by unfold reV;rw[reL_id cs]
 |.tup cs=>by unfold reV;rw[reL_id cs]
 |.lptr .. |.osl .. |.osub .. |.optr .. |.mref .. |.yld ..=>rfl
 |.int .. |.bool .. |.str .. |.junk|.isl .. |.icap .. |.eptr .. |.ibox .. |.nils|.emp|.niface|.nfunc|.nptr|.nmap|.iface ..=>rfl
theorem reL_id:∀l:List AV,reL (luN []) l=l
 |[]=>rfl
 |c::cs=>by unfold reL;rw[cC c,reL_id cs]
end
theorem GU(ob:LObj):reO (luN []) ob=ob:=by
 cases ob with
 |box cs=>show LObj.box _=_;rw[reL_id]
 |arr n sz get T=>show LObj.arr n sz _ T=_;congr 1;funext i;exact reL_id _
 |map kvs=>show LObj.map _=_;congr 1;simp[cC]
 |lrec=>show LObj.lrec .. =_;rw[reL_id]
 |dead=>rfl
theorem jd(ob:LObj):ObLe ob (reO (luN []) ob):=by rw[GU];exact q0a
structure WfC(c:Curve):Prop where
 len:1<=c.vals.length/\c.vals.length<=400
 per:1<=c.per/\c.per<=120/\c.per<=c.vals.length
 inc:0<=c.inc/\c.inc<=1073741824
 val:∀v∈c.vals,(0<=v/\v<=1073741824)\/v=inf
 last:c.vals.getD (c.vals.length-1) 0=inf->c.inc=0
def ay:Except Int Curve->AV
 |.ok c=>.tup [c.av,J 0]
 |.error e=>.tup [.agg [.nils,J 0,J 0],J e]
theorem aD(x:Except Int Curve)(ids:List Nat):nmV ids (ay x)=true:=by
 cases x<;>rfl
theorem b7{P:Program}{f:FuncId}{vs:List AV}{o:Xd}{k:List Nat->AV->Xb->Prop}{r:AV}{ins:Xc}(h:CallSpec P f vs ins r ins)(hin:dK o ins)(hout:fA o ins ins)(hk:k (ins.map (·.1)++ins.map (·.1)) r (bb ins)):vCall P f vs o k:=⟨r,ins,ins,h,hin,hout,hk⟩
mutual
theorem bC(ids:List Nat):∀v:AV,nmV [] v=true->nmV ids v=true
 |.fn g cs,h=>by unfold nmV at h⊢;exact nmL_mono ids cs h
 |.agg cs,h=>by unfold nmV at h⊢;exact nmL_mono ids cs h
 |.tup cs,h=>by unfold nmV at h⊢;exact nmL_mono ids cs h
 |.lptr ..,h=>by cases h
 |.osl ..,h=>by cases h
 |.osub ..,h=>by cases h
 |.optr ..,h=>by cases h
 |.mref ..,h=>by cases h
 |.yld ..,h=>by cases h
 |.int ..,_|.bool ..,_|.str ..,_|.junk,_|.isl ..,_|.icap ..,_|.eptr ..,_|.ibox ..,_|.nils,_|.emp,_|.niface,_|.nfunc,_|.nptr,_|.nmap,_|.iface ..,_=>rfl
theorem nmL_mono(ids:List Nat):∀l:List AV,nmL [] l=true->nmL ids l=true
 |[],_=>rfl
 |c::cs,h=>by
  unfold nmL at h⊢;rw[Bool.and_eq_true]at h⊢;exact⟨bC ids c h.1,nmL_mono ids cs h.2⟩
end
theorem bh{ob:LObj}(h:obCl [] ob)(ids:List Nat):obCl ids ob:=by
 cases ob with
 |box cs=>exact nmL_mono ids _ h
 |arr n sz get T=>exactλi hi=>nmL_mono ids _ (h i hi)
 |map kvs=>exactλk v hm=>⟨bC ids _ (h k v hm).1,bC ids _ (h k v hm).2⟩
 |lrec=>exact nmL_mono ids _ h
 |dead=>trivial
theorem sq1{p:Prop}(h:p:=by first|((repeat'(first|exact True.intro|refine And.intro ?_ ?_))<;>first|rfl|exact Ψ|exactλ_ _=>rfl|(refine Ξ ?_;first|omega|(dsimp only;omega)|rfl)|exact bh ‹_› _|((conv=>whnf)<;>first|exact q0a|exact Ψ|exact jd _))|fail):p:=h
theorem subP{p:Prop}(h:p:=by
 first|(((repeat'(first|exact True.intro|refine And.intro ?_ ?_))<;>first|rfl|exact bh ‹_› _|conv=>whnf);all_goals(rcases yv _ rfl with hq;exact hq))|fail):p:=h
theorem aJ{pid:List Nat}{nt:Nat}{ι:Type}{F:ι->St}{μ:ι->Nat}{m:Nat}{B:St}(re:List (Nat×Nat))(j:ι)(hs:Sub (frE pid nt) re B (F j):=by first|exact⟨⟨rfl,rfl⟩,sq1,sq1⟩|fail)(hm:μ j<m:=by first|omega|(dsimp only;omega)):∃j,cr pid nt B (F j)/\μ j<m:=⟨j,dP re hs,hm⟩
theorem aQ{pid:List Nat}{nt:Nat}{ι:Type}{F:ι -> St}{μ:ι -> Nat}{m:Nat}{B:St}(re:List (Nat × Nat))(j:ι)(hs:Sub (frE pid nt) re B (F j):=by
 first|(refine⟨⟨rfl,rfl⟩,?_,?_⟩<;>((((repeat'(first|exact True.intro|refine And.intro ?_ ?_))<;>first|rfl|exact bh ‹_› _|conv=>whnf));all_goals(rcases yv _ rfl with hq;exact hq)))|fail) (hm:μ j<m:=by first|omega|(dsimp only;omega)):∃j,cr pid nt B (F j)/\μ j<m:=⟨j,dP re hs,hm⟩
end Go.Nc