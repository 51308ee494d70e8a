/- Parts. -/
import Derived.Scope
import Derived.Test.YtooapceogfengaaGreatNcBT
namespace Go.Nc
open Go.Proofs.Tryz
theorem bR{b:Bool}{p:Prop}(h:ck b p):p/\∀q:Prop,q->ck b q:=by
 cases b with
 |true=>exact⟨h,λ_ q=>q⟩
 |false=>exact h.elim
theorem Em{d:TK}{op:BinOp}{x y:AV}{k:AV->Prop}(h:vBin d op x y k):∃r,k r/\∀k':AV->Prop,k' r->vBin d op x y k':=by
 unfold vBin at h;split at h;all_goals first
  |exact h.elim
  |exact⟨_,h,λ_ q=>q⟩
  |exact⟨_,h.2,λ_ q=>⟨h.1,q⟩⟩
  | (split at h
     all_goals first|exact h.elim|exact⟨_,h,λ_ q=>q⟩|exact⟨_,h.2,λ_ q=>⟨h.1,q⟩⟩)
theorem Bi{P:Program}{t:Nat}{d:TK}{op:BinOp}{x y:AV}{k:AV->Prop}(h:z5 P t d op x y k):∃r,k r/\∀k':AV->Prop,k' r->z5 P t d op x y k':=by
 unfold z5 at h⊢;split at h
 ·exact⟨_,h.out,λ_ q=>.wrap q⟩
 ·rename_i hne;obtain⟨r,h1,h2⟩:=Em h;exact⟨r,h1,λk' q=>h2 _ q⟩
theorem GC{op:UnOp}{x:AV}{k:AV->Prop}(h:vUn op x k):∃r,k r/\∀k':AV->Prop,k' r->vUn op x k':=by
 unfold vUn at h;split at h;all_goals first|exact h.elim|exact⟨_,h,λ_ q=>q⟩|exact⟨_,h.2,λ_ q=>⟨h.1,q⟩⟩
theorem xH{mx:Bool}{vs:List AV}{k:AV->Prop}(h:vMax mx vs k):∃r,k r/\∀k':AV->Prop,k' r->vMax mx vs k':=by
 unfold vMax at h;split at h;all_goals first|exact h.elim|exact⟨_,h,λ_ q=>q⟩
theorem Bj{s d:TI}{x:AV}{k:AV->Prop}(h:zt s d x k):∃r,k r/\∀k':AV->Prop,k' r->zt s d x k':=by
 unfold zt at h⊢;generalize s.tk=a at h⊢;generalize d.tk=b at h⊢;split at h
 ·exact⟨_,h.2,λ_ q=>⟨h.1,q⟩⟩
 ·exact⟨_,h.2,λ_ q=>⟨h.1,q⟩⟩
 ·exact h.elim
theorem tT{i:Nat}{x:AV}{k:AV->Prop}(h:jy i x k):∃r,k r/\∀k':AV->Prop,k' r->jy i x k':=by
 unfold jy at h⊢;cases x with
 |tup vs=>
  dsimp only at h⊢;generalize vs[i]? =g at h⊢;cases g with
  |some v=>exact⟨v,h,λ_ q=>q⟩
  |none=>exact h.elim
 |_=>exact h.elim
theorem qz{ti:TI}{cs:List AV}{off:Nat}{k:AV->Prop}(h:nB ti cs off k):∃r,k r/\∀k':AV->Prop,k' r->nB ti cs off k':=by
 unfold nB at h⊢;generalize ti.agg=g at h⊢;cases g with
 |true=>exact⟨_,(bR h).1,λ_ q=>(bR h).2 _ q⟩
 |false=>
  dsimp only at h⊢;generalize cs[off]? =g at h⊢;cases g with
  |some v=>exact⟨v,h,λ_ q=>q⟩
  |none=>exact h.elim
theorem mL{o:Xd}{p:AV}{k:List AV->Nat->List Nat->Prop}(h:hZ o p k):∃cs off ro,k cs off ro/\∀k':List AV->Nat->List Nat->Prop,k' cs off ro->hZ o p k':=by
 unfold hZ at h⊢;cases p with
 |lptr id off=>
  dsimp only at h⊢;generalize o id=g at h⊢;rcases g with _|ob
  ·exact h.elim
  ·cases ob with
   |box cs=>exact⟨_,_,_,h,λ_ q=>q⟩
   |_=>exact h.elim
 |ibox cs off=>exact⟨_,_,_,h,λ_ q=>q⟩
 |eptr n sz get i j=>exact⟨_,_,_,h,λ_ q=>q⟩
 |optr id sz i j=>
  dsimp only at h⊢;generalize o id=g at h⊢;rcases g with _|ob
  ·exact h.elim
  ·cases ob with
   |arr n sz' get T=>
    dsimp only at h⊢;obtain⟨⟨h1,⟨cs',h2,h3⟩⟩,h4⟩:=bR h;exact⟨_,_,_,h3,λ_ q=>h4 _ ⟨h1,⟨cs',h2,q⟩⟩⟩
   |_=>exact h.elim
 |_=>exact h.elim
theorem Bk{ti:TI}{A:St}{p:Operand}{k:List Nat->AV->Prop}(h:zq ti A p k):∃ro r,k ro r/\∀k':List Nat->AV->Prop,k' ro r->zq ti A p k':=by
 unfold zq at h⊢;generalize opdV A.s p=g at h⊢;cases g with
 |none=>exact h.elim
 |some v=>
  dsimp only at h⊢;obtain⟨cs,off,ro,h1,h2⟩:=mL h;obtain⟨r,h3,h4⟩:=qz h1;exact⟨_,_,h3,λk' q=>h2 _ (h4 (k' ro) q)⟩
theorem zD{ti:TI}{o:Xd}{p v:AV}{k:Nat->LObj->Prop}(h:ql ti o p v k):∃id ob,k id ob/\∀k':Nat->LObj->Prop,k' id ob->ql ti o p v k':=by
 unfold ql at h⊢;cases p with
 |lptr id off=>
  dsimp only at h⊢;generalize o id=g at h⊢;rcases g with _|ob
  ·exact h.elim
  ·cases ob with
   |box cs=>
    dsimp only at h⊢;exact⟨_,_,(bR h).1,λ_ q=>(bR h).2 _ q⟩
   |_=>exact h.elim
 |optr id sz i j=>
  dsimp only at h⊢;generalize o id=g at h⊢;rcases g with _|ob
  ·exact h.elim
  ·cases ob with
   |arr n sz' get T=>
    dsimp only at h⊢;obtain⟨⟨h1,h2⟩,h4⟩:=bR h;exact⟨_,_,h2,λ_ q=>h4 _ ⟨h1,q⟩⟩
   |_=>exact h.elim
 |_=>exact h.elim
theorem zE{ti:TI}{f:Nat}{p:AV}{k:AV->Prop}(h:qh ti f p k):∃r,k r/\∀k':AV->Prop,k' r->qh ti f p k':=by
 unfold qh at h⊢;generalize ti.tk=tk at h⊢;cases tk with
 |struct=>
  dsimp only at h⊢;generalize ti.flds[f]? =g at h⊢;rcases g with _|⟨off,sz⟩
  ·exact h.elim
  ·dsimp only at h⊢;obtain⟨h1,h2⟩:=bR h;generalize gK p off=s at h1 h2⊢;cases s with
   |none=>exact h1.elim
   |some v=>exact⟨v,h1,λ_ q=>h2 _ q⟩
 |_=>exact h.elim
theorem wh{p:AV}{k:AV->Prop}(h:lF p k):∃r,k r/\∀k':AV->Prop,k' r->lF p k':=by
 unfold lF at h⊢;generalize gK p 0=s at h⊢;cases s with
 |none=>exact h.elim
 |some v=>exact⟨p,h,λ_ q=>q⟩
theorem zF{T:Tab}{ti:TI}{x ix:AV}{k:AV->Prop}(h:qi T ti x ix k):∃r,k r/\∀k':AV->Prop,k' r->qi T ti x ix k':=by
 unfold qi at h⊢;generalize ti.tk=tk at h⊢;cases tk with
 |slice e=>
  dsimp only at h⊢;generalize luT T e=g at h⊢;cases g with
  |none=>exact h.elim
  |some te=>
   dsimp only at h⊢;split at h
   ·obtain⟨⟨h1,h2⟩,h3⟩:=bR h;exact⟨_,h2,λ_ q=>h3 _ ⟨h1,q⟩⟩
   ·exact⟨_,h.2,λ_ q=>⟨h.1,q⟩⟩
   ·obtain⟨⟨h1,h2⟩,h3⟩:=bR h;exact⟨_,h2,λ_ q=>h3 _ ⟨h1,q⟩⟩
   ·exact h.elim
 |arr n e=>
  dsimp only at h⊢;generalize luT T e=g at h⊢;cases g with
  |none=>exact h.elim
  |some te=>
   dsimp only at h⊢;cases ix with
   |int kk i=>
    dsimp only at h⊢;obtain⟨h1,h2⟩:=h;generalize hs:gK x (i.toNat*te.size)=s at h2;cases s with
    |none=>exact h2.elim
    |some v=>exact⟨v,h2,λ_ q=>⟨h1,q⟩⟩
   |_=>exact h.elim
 |_=>exact h.elim
theorem En{ti:TI}{x:AV}{k:AV->Prop}(h:vLen ti x k):∃r,k r/\∀k':AV->Prop,k' r->vLen ti x k':=by
 unfold vLen at h⊢;generalize ti.tk=tk at h⊢;split at h;all_goals first|exact h.elim|exact⟨_,h,λ_ q=>q⟩
theorem zG{T:Tab}{ti:TI}{x:AV}{lo hi:Option AV}{k:AV->Prop}(h:qk T ti x lo hi k):∃r,k r/\∀k':AV->Prop,k' r->qk T ti x lo hi k':=by
 unfold qk at h⊢;generalize ti.tk=tk at h⊢;cases tk with
 |slice e=>
  dsimp only at h⊢;generalize luT T e=g at h⊢;cases g with
  |none=>exact h.elim
  |some te=>
   dsimp only at h⊢;split at h;all_goals first
    |exact h.elim
    |exact⟨_,h.2,λ_ q=>⟨h.1,q⟩⟩
    | (obtain⟨⟨h1,h2⟩,h3⟩:=bR h
       exact⟨_,h2,λ_ q=>h3 _ ⟨h1,q⟩⟩)
 |_=>exact h.elim
theorem wi{T:Tab}{ti:TI}{o:Xd}{x:AV}{lo hi:Option AV}{k:List Nat->AV->Prop}(h:lL T ti o x lo hi k):∃ro r,k ro r/\∀k':List Nat->AV->Prop,k' ro r->lL T ti o x lo hi k':=by
 unfold lL at h⊢;split at h
 ·split at h
  ·rename_i e _;generalize luT T e=ge at h⊢;rcases ge with _|te
   ·exact h.elim
   ·dsimp only at h⊢;split at h
    ·obtain⟨⟨h1,h2⟩,h3⟩:=bR h;exact⟨_,_,h2,λ_ q=>h3 _ ⟨h1,q⟩⟩
    ·exact h.elim
  ·exact h.elim
 ·obtain⟨r,h1,h2⟩:=zG h;exact⟨_,_,h1,λ_ q=>h2 _ q⟩
theorem wj{cst:Bool}{ti:TI}{x hi mx:AV}{k:AV->Prop}(h:lG cst ti x hi mx k):∃r,k r/\∀k':AV->Prop,k' r->lG cst ti x hi mx k':=by
 unfold lG at h⊢;cases cst with
 |false=>
  dsimp only at h⊢;generalize ti.tk=tk at h⊢;cases tk with
  |slice e=>
   dsimp only at h⊢;split at h
   ·exact⟨_,h.2,λ_ q=>⟨h.1,q⟩⟩
   ·exact h.elim
  |_=>exact h.elim
 |true=>
 dsimp only at h⊢;generalize ti.tk=tk at h⊢;cases tk with
 |slice e=>
  dsimp only at h⊢;split at h
  ·obtain⟨h1,h2⟩:=h;cases x with
   |isl n sz get=>exact⟨_,h2,λ_ q=>⟨h1,q⟩⟩
   |osl id n=>exact⟨_,h2,λ_ q=>⟨h1,q⟩⟩
   |osub id off n sz=>exact⟨_,h2,λ_ q=>⟨h1,q⟩⟩
   |nils=>exact⟨_,h2,λ_ q=>⟨h1,q⟩⟩
   |emp=>exact⟨_,h2,λ_ q=>⟨h1,q⟩⟩
   |_=>exact h2.elim
  ·exact h.elim
 |_=>exact h.elim
theorem Eo{v:AV}{k:List AV->Prop}(h:vBox v k):∃r,k r/\∀k':List AV->Prop,k' r->vBox v k':=by
 unfold vBox at h⊢;cases v with
 |junk=>exact h.elim
 |_=>exact⟨_,h,λ_ q=>q⟩
theorem kB{o:Xd}{v:AV}{sz:Nat}{k:Nat->(Nat->List AV)->List Nat->Prop}(h:rB o v sz k):∃n get ro,k n get ro/\∀k':Nat->(Nat->List AV)->List Nat->Prop,k' n get ro->rB o v sz k':=by
 unfold rB at h⊢;cases v with
 |isl n sz' get=>exact⟨_,_,_,(bR h).1,λ_ q=>(bR h).2 _ q⟩
 |osl id n=>
  dsimp only at h⊢;generalize o id=g at h⊢;rcases g with _|ob
  ·exact h.elim
  ·cases ob with
   |arr n sz' get T=>
    dsimp only at h⊢;obtain⟨⟨h1,h2⟩,h3⟩:=bR h;exact⟨_,_,_,h2,λ_ q=>h3 _ ⟨h1,q⟩⟩
   |_=>exact h.elim
 |nils=>exact⟨_,_,_,h,λ_ q=>q⟩
 |_=>exact h.elim
theorem wm{T:Tab}{ti:TI}{pid:List Nat}{o:Xd}{d:Nat}{dst src:AV}{k:List Nat->Nat->Xb->Prop}(h:lH T ti pid o d dst src k) :
  ∃ro n wo,k ro n wo/\∀k':List Nat->Nat->Xb->Prop,k' ro n wo->lH T ti pid o d dst src k':=by
 unfold lH at h⊢;generalize ti.tk=tk at h⊢;cases tk with
 |slice e =>
  dsimp only at h⊢;generalize luT T e=g at h⊢;cases g with
  |none=>exact h.elim
  |some te=>
   dsimp only at h⊢;cases dst with
   |nils=>
    dsimp only at h⊢;obtain⟨h1,h2⟩:=bR h;obtain⟨n,get,ro,⟨h3,h4⟩,h5⟩:=kB h1;exact⟨_,_,_,h4,λ_ q=>h2 _ (h5 _ ⟨h3,q⟩)⟩
   |emp=>
    dsimp only at h⊢;obtain⟨h1,h2⟩:=bR h;obtain⟨n,get,ro,⟨h3,h4⟩,h5⟩:=kB h1;exact⟨_,_,_,h4,λ_ q=>h2 _ (h5 _ ⟨h3,q⟩)⟩
   |icap n sz1 get1=>
    dsimp only at h⊢;obtain⟨h1,h2⟩:=bR h;obtain⟨n,get,ro,⟨h3,h4⟩,h5⟩:=kB h1;exact⟨_,_,_,h4,λ_ q=>h2 _ (h5 _ ⟨h3,q⟩)⟩
   |osl id n=>
    dsimp only at h⊢;generalize o id=g at h⊢;rcases g with _|ob
    ·exact h.elim
    ·cases ob with
     |arr n sz' get T=>
      dsimp only at h⊢;obtain⟨h1,h2⟩:=bR h;obtain⟨n,get,ro,⟨h3,h4⟩,h5⟩:=kB h1;exact⟨_,_,_,h4,λ_ q=>h2 _ (h5 _ ⟨h3,q⟩)⟩
     |_=>exact h.elim
   |_=>exact h.elim
 |_=>exact h.elim
theorem zH{T:Tab}{ti:TI}{ps:List (Nat×AV)}{k:AV->Prop}(h:qm T ti ps k):∃r,k r/\∀k':AV->Prop,k' r->qm T ti ps k':=by
 unfold qm at h⊢;generalize ti.tk=tk at h⊢;cases tk with
 |struct=>
  dsimp only at h⊢;obtain⟨h1,h2⟩:=bR h;generalize dR (λi=>ti.flds[i]?) ti.zero ps=g at h1 h2⊢;cases g with
  |none=>exact h1.elim
  |some cs=>exact⟨_,h1,λ_ q=>h2 _ q⟩
 |arr n e=>
  dsimp only at h⊢;generalize luT T e=g at h⊢;cases g with
  |none=>exact h.elim
  |some te=>
   dsimp only at h⊢;generalize dR (λi=>some (i*te.size,te.size)) ti.zero ps=g at h⊢;cases g with
   |none=>exact h.elim
   |some cs=>exact⟨_,h,λ_ q=>q⟩
 |_=>exact h.elim
theorem Bl{T:Tab}{ti:TI}{l c:AV}{k:Nat->LObj->Prop}(h:zy T ti l c k):∃n ob,k n ob/\∀k':Nat->LObj->Prop,k' n ob->zy T ti l c k':=by
 unfold zy at h⊢;generalize ti.tk=tk at h⊢;cases tk with
 |slice e=>
  dsimp only at h⊢;generalize luT T e=g at h⊢;cases g with
  |none=>exact h.elim
  |some te=>
   dsimp only at h⊢;split at h
   ·obtain⟨⟨h1,h2⟩,h3⟩:=bR h;exact⟨_,_,h2,λ_ q=>h3 _ ⟨h1,q⟩⟩
   ·exact h.elim
 |_=>exact h.elim
theorem Ep{T:Tab}{ti:TI}{len:Nat}{ps:List (Nat×AV)}{k:LObj->Prop}(h:vLit T ti len ps k):∃r,k r/\∀k':LObj->Prop,k' r->vLit T ti len ps k':=by
 unfold vLit at h⊢;generalize ti.tk=tk at h⊢;cases tk with
 |slice e=>
  dsimp only at h⊢;generalize luT T e=g at h⊢;cases g with
  |none=>exact h.elim
  |some te=>
   dsimp only at h⊢;obtain⟨h1,h2⟩:=bR h;generalize dR (λi=>some (i*te.size,te.size)) (repL len te.zero) ps=g at h1 h2⊢;cases g with
   |none=>exact h1.elim
   |some cs=>exact⟨_,h1,λ_ q=>h2 _ q⟩
 |_=>exact h.elim
theorem wn{T:Tab}{ti:TI}{o:Xd}{m key:AV}{ok:Bool}{k:List Nat->AV->Prop}(h:lK T ti o m key ok k):∃ro r,k ro r/\∀k':List Nat->AV->Prop,k' ro r->lK T ti o m key ok k':=by
 unfold lK at h⊢;generalize ti.tk=tk at h⊢;cases tk with
 |map kt et =>
  dsimp only at h⊢;generalize luT T kt=g1 at h⊢;generalize luT T et=g2 at h⊢;cases g1 with
  |none=>exact h.elim
  |some tk =>
   cases g2 with
   |none=>exact h.elim
   |some te =>
    dsimp only at h⊢;generalize te.zero=z at h⊢;split at h
    ·cases m with
     |mref id=>
      dsimp only at h⊢;generalize o id=g at h⊢;rcases g with _|ob
      ·exact h.elim
      ·cases ob with
       |map kvs=>
        dsimp only at h⊢;obtain⟨⟨r,h1,h2⟩,h3⟩:=bR h;exact⟨_,_,h2,λ_ q=>h3 _ ⟨r,h1,q⟩⟩
       |_=>exact h.elim
     |_=>exact h.elim
    ·exact h.elim
 |_=>exact h.elim
theorem nO{T:Tab}{ti:TI}{o:Xd}{m key v:AV}{k:Nat->LObj->Prop}(h:jT T ti o m key v k):∃id ob,k id ob/\∀k':Nat->LObj->Prop,k' id ob->jT T ti o m key v k':=by
 unfold jT at h⊢;generalize ti.tk=tk at h⊢;cases tk with
 |map kt et=>
  dsimp only at h⊢;generalize luT T kt=g1 at h⊢;cases g1 with
  |none=>exact h.elim
  |some tk=>
   dsimp only at h⊢;cases m with
   |mref id=>
    dsimp only at h⊢;generalize o id=g at h⊢;rcases g with _|ob
    ·exact h.elim
    ·cases ob with
     |map kvs=>
      dsimp only at h⊢;obtain⟨⟨r,h1,h2⟩,h3⟩:=bR h;exact⟨_,_,h2,λ_ q=>h3 _ ⟨r,h1,q⟩⟩
     |_=>exact h.elim
   |_=>exact h.elim
 |_=>exact h.elim
theorem zI{x ix:AV}{k:AV->Prop}(h:qo x ix k):∃r,k r/\∀k':AV->Prop,k' r->qo x ix k':=by
 unfold qo at h⊢;split at h
 ·exact⟨_,h.2,λ_ q=>⟨h.1,q⟩⟩
 ·exact h.elim
theorem zJ{T:Tab}{ti:TI}{o:Xd}{x:AV}{k:Nat->LObj->Prop}(h:qp T ti o x k):∃id ob,k id ob/\∀k':Nat->LObj->Prop,k' id ob->qp T ti o x k':=by
 unfold qp at h⊢;split at h
 ·rename_i e _;generalize luT T e=ge at h⊢;rcases ge with _|te
  ·exact h.elim
  ·cases x with
   |osub id off n sz=>
    dsimp only at h⊢;generalize o id=g at h⊢;rcases g with _|ob
    ·exact h.elim
    ·cases ob with
     |arr m sz' get e'=>
      dsimp only at h⊢;obtain⟨⟨h1,h2⟩,h4⟩:=bR h;exact⟨_,_,h2,λ_ q=>h4 _ ⟨h1,q⟩⟩
     |_=>exact h.elim
   |_=>exact h.elim
 ·exact h.elim
theorem Er{P:Program}{t:Nat}{ti:TI}{f:Nat}{x:AV}{k:AV->Prop}(h:vFld P t ti f x k):∃r,k r/\∀k':AV->Prop,k' r->vFld P t ti f x k':=by
 unfold vFld at h⊢;generalize ti.tk=tk at h⊢;generalize ti.flds[f]? =g at h⊢;split at h
 ·split at h
  ·split at h
   ·exact h.elim
   ·split at h
    ·exact⟨_,h.2,λ_ q=>⟨h.1,q⟩⟩
    ·exact h.elim
  ·exact h.elim
 ·exact h.elim
theorem nP{P:Program}{f:FuncId}{vs:List AV}{o:Xd}{k:List Nat->AV->Xb->Prop}(h:vCall P f vs o k) :
  ∃ro r wo,k ro r wo/\∀k':List Nat->AV->Xb->Prop,k' ro r wo->vCall P f vs o k':=by
 obtain⟨r,ins,outs,h1,h2,h3,h4⟩:=h;exact⟨_,_,_,h4,λ_ q=>⟨r,ins,outs,h1,h2,h3,q⟩⟩
theorem zK{P:Program}{yid:Nat}{vs:List AV}{o:Xd}{k:List Nat->AV->Xb->Prop}(h:vYield P yid vs o k) :
  ∃ro r wo,k ro r wo/\∀k':List Nat->AV->Xb->Prop,k' ro r wo->vYield P yid vs o k':=by
 obtain⟨r,ins,outs,h1,h2,h3,h4⟩:=h;exact⟨_,_,_,h4,λ_ q=>⟨r,ins,outs,h1,h2,h3,q⟩⟩
theorem Es{P:Program}{t:TypeId}{name:String}{vs:List AV}{o:Xd}{k:List Nat->AV->Xb->Prop}(h:VInv P t name vs o k) :
  ∃ro r wo,k ro r wo/\∀k':List Nat->AV->Xb->Prop,k' ro r wo->VInv P t name vs o k':=by
 obtain⟨f,h1,h2⟩:=h;obtain⟨ro,r,wo,h3,h4⟩:=nP h2;exact⟨_,_,_,h3,λk' q=>⟨f,h1,h4 k' q⟩⟩
section
variable {P:Program} {T:Tab} {X:Frm} {ops:Array Oper}
theorem xI{i:Nat}{o:Oper}{A:St}{k:Eff->Prop}(h:vop1 P T X ops i o A k):∃E,k E/\∀k':Eff->Prop,k' E->vop1 P T X ops i o A k':=by
 unfold vop1 at h⊢;generalize o.op=op at h⊢;cases op with
 |move x=>
  dsimp only at h⊢;generalize opdV A.s x=g at h⊢;cases g with
  |none=>exact h.elim
  |some v=>
   dsimp only at h⊢;generalize gSrc ops i=s at h⊢;cases s with
   |false=>exact⟨_,h,λ_ q=>q⟩
   |true=>
    dsimp only at h⊢;cases v with
    |bool b=>cases b<;>exact⟨_,h,λ_ q=>q⟩
    |_=>exact h.elim
 |assign x=>
  dsimp only at h⊢;generalize opdV A.s x=g at h⊢;cases g with
  |none=>exact h.elim
  |some v=>exact⟨_,h,λ_ q=>q⟩
 |pick c x y=>
  dsimp only at h⊢;generalize opdV A.s c=g at h⊢;rcases g with _|v
  ·exact h.elim
  ·cases v with
   |bool b=>
    dsimp only at h⊢;generalize opdV A.s x=gx at h⊢;generalize opdV A.s y=gy at h⊢;cases b with
    |true=>
     cases gx with
     |none=>exact h.elim
     |some v=>exact⟨_,h,λ_ q=>q⟩
    |false=>
     cases gy with
     |none=>exact h.elim
     |some v=>exact⟨_,h,λ_ q=>q⟩
   |_=>exact h.elim
 |binOp bo t x y t'=>
  dsimp only at h⊢;generalize opdV A.s x=gx at h⊢;generalize opdV A.s y=gy at h⊢;generalize luT T t=gt at h⊢;split at h
  ·obtain⟨r,h1,h2⟩:=Bi h;exact⟨_,h1,λ_ q=>h2 _ q⟩
  ·exact h.elim
 |unOp uo t x=>
  dsimp only at h⊢;generalize opdV A.s x=gx at h⊢;cases gx with
  |none=>exact h.elim
  |some v=>
   obtain⟨r,h1,h2⟩:=GC h;exact⟨_,h1,λ_ q=>h2 _ q⟩
 |convert t t' x=>
  dsimp only at h⊢;generalize opdV A.s x=gx at h⊢;generalize luT T t=gt at h⊢;generalize luT T t'=gt' at h⊢;split at h
  ·obtain⟨r,h1,h2⟩:=Bj h;exact⟨_,h1,λ_ q=>h2 _ q⟩
  ·exact h.elim
 |load t p=>
  dsimp only at h⊢;generalize luT T t=gt at h⊢;cases gt with
  |none=>exact h.elim
  |some ti=>
   obtain⟨ro,r,h1,h2⟩:=Bk h;exact⟨_,h1,λ_ q=>h2 _ q⟩
 |store t x y=>
  dsimp only at h⊢;generalize luT T t=gt at h⊢;generalize opdV A.s x=gx at h⊢;generalize opdV A.s y=gy at h⊢;split at h
  ·obtain⟨id,ob,h1,h2⟩:=zD h;exact⟨_,h1,λ_ q=>h2 _ q⟩
  ·exact h.elim
 |fieldAddr t p f=>
  dsimp only at h⊢;generalize luT T t=gt at h⊢;generalize opdV A.s p=gx at h⊢;split at h
  ·obtain⟨r,h1,h2⟩:=zE h;exact⟨_,h1,λ_ q=>h2 _ q⟩
  ·exact h.elim
 |nilCheck p=>
  dsimp only at h⊢;generalize opdV A.s p=gx at h⊢;cases gx with
  |none=>exact h.elim
  |some v=>
   obtain⟨r,h1,h2⟩:=wh h;exact⟨_,h1,λ_ q=>h2 _ q⟩
 |indexAddr t x ix=>
  dsimp only at h⊢;generalize luT T t=gt at h⊢;generalize opdV A.s x=gx at h⊢;generalize opdV A.s ix=gy at h⊢;split at h
  ·obtain⟨r,h1,h2⟩:=zF h;exact⟨_,h1,λ_ q=>h2 _ q⟩
  ·exact h.elim
 |slice t x lo hi mx=>
  cases mx with
  |none=>
   dsimp only at h⊢;generalize luT T t=gt at h⊢;generalize opdV A.s x=gx at h⊢;generalize optV A.s lo=gl at h⊢;generalize optV A.s hi=gh at h⊢;split at h
   ·obtain⟨ro,r,h1,h2⟩:=wi h;exact⟨_,h1,λ_ q=>h2 _ q⟩
   ·exact h.elim
  |some mx =>
   cases lo with
   |some lo=>exact h.elim
   |none=>
    cases hi with
    |none=>exact h.elim
    |some hi=>
     dsimp only at h⊢;generalize luT T t=gt at h⊢;generalize opdV A.s x=gx at h⊢;generalize opdV A.s hi=gl at h⊢;generalize opdV A.s mx=gh at h⊢;split at h
     ·rename_i ti v vh vm;generalize htk:ti.tk=tk at h;cases tk with
      |slice e=>
       dsimp only at h;obtain⟨h1,h2⟩:=bR h;obtain⟨r,h3,h4⟩:=wj h1;exact⟨_,h3,λ_ q=>h2 _ (h4 _ q)⟩
      |_=>exact h.elim
     ·exact h.elim
 |extract x j=>
  dsimp only at h⊢;generalize opdV A.s x=gx at h⊢;cases gx with
  |none=>exact h.elim
  |some v=>
   obtain⟨r,h1,h2⟩:=tT h;exact⟨_,h1,λ_ q=>h2 _ q⟩
 |makeFunc fn fs caps=>
  cases fn with
  |func f=>
   dsimp only at h⊢;generalize fs.toList=l at h⊢;generalize cW A.s caps.toList=g at h⊢;split at h
   ·exact⟨_,h,λ_ q=>q⟩
   ·exact h.elim
  |_=>exact h.elim
 |alloc t=>
  dsimp only at h⊢;generalize luT T t=gt at h⊢;generalize o.dst=gd at h⊢;split at h
  ·obtain⟨h1,h2⟩:=bR h;exact⟨_,h1,λ_ q=>h2 _ q⟩
  ·exact h.elim
 |box t x=>
  dsimp only at h⊢;generalize opdV A.s x=gx at h⊢;generalize o.dst=gd at h⊢;split at h
  ·obtain⟨h1,h2⟩:=bR h;obtain⟨cs,h3,h4⟩:=Eo h1;exact⟨_,h3,λ_ q=>h2 _ (h4 _ q)⟩
  ·exact h.elim
 |build t parts=>
  dsimp only at h⊢;generalize luT T t=gt at h⊢;generalize fj A.s parts.toList=gp at h⊢;split at h
  ·obtain⟨r,h1,h2⟩:=zH h;exact⟨_,h1,λ_ q=>h2 _ q⟩
  ·exact h.elim
 |buildSlice t len parts=>
  dsimp only at h⊢;generalize luT T t=gt at h⊢;generalize fj A.s parts.toList=gp at h⊢;generalize o.dst=gd at h⊢;split at h
  ·obtain⟨h1,h2⟩:=bR h;obtain⟨cs,h3,h4⟩:=Ep h1;exact⟨_,h3,λ_ q=>h2 _ (h4 _ q)⟩
  ·exact h.elim
 |makeSlice t x y=>
  dsimp only at h⊢;generalize luT T t=gt at h⊢;generalize opdV A.s x=gx at h⊢;generalize opdV A.s y=gy at h⊢;generalize o.dst=gd at h⊢;split at h
  ·obtain⟨h1,h2⟩:=bR h;obtain⟨n,ob,h3,h4⟩:=Bl h1;exact⟨_,h3,λ_ q=>h2 _ (h4 _ q)⟩
  ·exact h.elim
 |call c=>
  obtain⟨callee,args,argTypes⟩:=c;cases callee with
  |builtin b=>
   cases b with
   |len =>
    dsimp only at h⊢;generalize args.toList=l1 at h⊢;generalize argTypes.toList=l2 at h⊢;split at h
    ·rename_i x t;generalize luT T t=gt at h⊢;generalize opdV A.s x=gx at h⊢;split at h
     ·obtain⟨r,h1,h2⟩:=En h;exact⟨_,h1,λ_ q=>h2 _ q⟩
     ·exact h.elim
    ·exact h.elim
   |max=>
    dsimp only at h⊢;generalize cW A.s args.toList=gx at h⊢;cases gx with
    |none=>exact h.elim
    |some vs=>
     obtain⟨r,h1,h2⟩:=xH h;exact⟨_,h1,λ_ q=>h2 _ q⟩
   |min=>
    dsimp only at h⊢;generalize cW A.s args.toList=gx at h⊢;cases gx with
    |none=>exact h.elim
    |some vs=>
     obtain⟨r,h1,h2⟩:=xH h;exact⟨_,h1,λ_ q=>h2 _ q⟩
   |append=>
    dsimp only at h⊢;generalize args.toList=l1 at h⊢;generalize argTypes.toList=l2 at h⊢;generalize o.dst=gd at h⊢;split at h
    ·rename_i x y t t' d;generalize luT T t=gt at h⊢;generalize opdV A.s x=gx at h⊢;generalize opdV A.s y=gy at h⊢;split at h
     ·obtain⟨h1,h2⟩:=bR h;obtain⟨ro,n,wo,h3,h4⟩:=wm h1;exact⟨_,h3,λ_ q=>h2 _ (h4 _ q)⟩
     ·exact h.elim
    ·exact h.elim
   |clear=>
    dsimp only at h⊢;generalize args.toList=l1 at h⊢;generalize argTypes.toList=l2 at h⊢;split at h
    ·rename_i x t;generalize luT T t=gt at h⊢;generalize opdV A.s x=gx at h⊢;split at h
     ·obtain⟨id,ob,h1,h2⟩:=zJ h;exact⟨_,h1,λ_ q=>h2 _ q⟩
     ·exact h.elim
    ·exact h.elim
   |_=>exact h.elim
  |value v=>
   cases v with
   |func f=>
    dsimp only at h⊢;generalize cW A.s args.toList=gx at h⊢;cases gx with
    |none=>exact h.elim
    |some vs=>
     obtain⟨ro,r,wo,h1,h2⟩:=nP h;exact⟨_,h1,λ_ q=>h2 _ q⟩
   |tmp t=>
    dsimp only at h⊢;generalize A.s t=gt at h⊢;generalize cW A.s args.toList=gx at h⊢;split at h
    ·obtain⟨ro,r,wo,h1,h2⟩:=nP h;exact⟨_,h1,λ_ q=>h2 _ q⟩
    ·obtain⟨ro,r,wo,h1,h2⟩:=zK h;exact⟨_,h1,λ_ q=>h2 _ q⟩
    ·exact h.elim
   |_=>exact h.elim
  |invoke x name=>
   dsimp only at h⊢;generalize opdV A.s x=gx at h⊢;generalize cW A.s args.toList=gv at h⊢;split at h
   ·obtain⟨ro,r,wo,h1,h2⟩:=Es h;exact⟨_,h1,λ_ q=>h2 _ q⟩
   ·exact h.elim
 |makeMap t hint=>
  cases hint with
  |some _=>exact h.elim
  |none=>
   dsimp only at h⊢;generalize o.dst=gd at h⊢;cases gd with
   |none=>exact h.elim
   |some d=>
    obtain⟨h1,h2⟩:=bR h;exact⟨_,h1,λ_ q=>h2 _ q⟩
 |lookup t x y ok=>
  dsimp only at h⊢;generalize luT T t=gt at h⊢;generalize opdV A.s x=gx at h⊢;generalize opdV A.s y=gy at h⊢;split at h
  ·obtain⟨ro,r,h1,h2⟩:=wn h;exact⟨_,h1,λ_ q=>h2 _ q⟩
  ·exact h.elim
 |mapUpdate t x y z=>
  dsimp only at h⊢;generalize luT T t=gt at h⊢;generalize opdV A.s x=gx at h⊢;generalize opdV A.s y=gy at h⊢;generalize opdV A.s z=gz at h⊢;split at h
  ·obtain⟨id,ob,h1,h2⟩:=nO h;exact⟨_,h1,λ_ q=>h2 _ q⟩
  ·exact h.elim
 |insert t x y z=>
  dsimp only at h⊢;generalize luT T t=gt at h⊢;generalize opdV A.s x=gx at h⊢;generalize opdV A.s y=gy at h⊢;generalize opdV A.s z=gz at h⊢;split at h
  ·obtain⟨id,ob,h1,h2⟩:=nO h;exact⟨_,h1,λ_ q=>h2 _ q⟩
  ·exact h.elim
 |index t x y=>
  dsimp only at h⊢;generalize luT T t=gt at h⊢;generalize opdV A.s x=gx at h⊢;generalize opdV A.s y=gy at h⊢;split at h
  ·rename_i ti u v;generalize htk:ti.tk=tk at h;cases tk with
   |str=>
    dsimp only at h;obtain⟨r,h1,h2⟩:=zI h;exact⟨_,h1,λ_ q=>h2 _ q⟩
   |_=>exact h.elim
  ·exact h.elim
 |makeInterface t x=>
  dsimp only at h⊢;generalize luT T t=gt at h⊢;generalize opdV A.s x=gx at h⊢;split at h
  ·obtain⟨h1,h2⟩:=bR h;exact⟨_,h1,λ_ q=>h2 _ q⟩
  ·exact h.elim
 |field t x f=>
  dsimp only at h⊢;generalize luT T t=gt at h⊢;generalize opdV A.s x=gx at h⊢;split at h
  ·obtain⟨r,h1,h2⟩:=Er h;exact⟨_,h1,λ_ q=>h2 _ q⟩
  ·exact h.elim
 |_=>exact h.elim
theorem xJ{i:Nat}{o:Oper}{A:St}{k:Eff->Prop}(h:vopG P T X ops i o A k):∃E,k E/\∀k':Eff->Prop,k' E->vopG P T X ops i o A k':=by
 unfold vopG at h⊢;generalize dOk X.nt o=b at h⊢;cases b with
 |false=>exact h.elim
 |true=>
  dsimp only at h⊢;generalize o.guard=g at h⊢;rcases g with _|⟨j,want⟩
  ·exact xI h
  ·dsimp only at h⊢;generalize ops[j]? =p at h⊢;rcases p with _|p
   ·exact h.elim
   ·dsimp only at h⊢;generalize p.dst=d at h⊢;rcases d with _|t
    ·exact h.elim
    ·dsimp only at h⊢;generalize hs:A.s t=s at h;split at h
     ·rename_i b;generalize hw:(b==want)=c at h;cases c with
      |true=>
       obtain⟨E,h1,h2⟩:=xI h;exact⟨E,h1,λk' q=>h2 k' q⟩
      |false=>
       exact⟨_,h,λk' q=>q⟩
     ·exact⟨_,h,λk' q=>q⟩
     ·exact h.elim
theorem xK{wo objs:Xb}{k:Xb->Prop}(h:catO wo objs k):∃r,k r/\∀k':Xb->Prop,k' r->catO wo objs k':=by
 unfold catO at h⊢;split at h<;>exact⟨_,h,λ_ q=>q⟩
theorem xL{env:List (Nat×AV)}{objs:Xb}{E:Eff}{k:St->Prop}(h:appK env objs E k):∃B,k B/\∀k':St->Prop,k' B->appK env objs E k':=by
 obtain⟨rs,ro,ws,wo⟩:=E;unfold appK at h⊢;rcases ws with _|⟨d,v⟩
 ·obtain⟨r,h1,h2⟩:=xK h;exact⟨_,h1,λ_ q=>h2 _ q⟩
 ·obtain⟨r,h1,h2⟩:=xK h;exact⟨_,h1,λ_ q=>h2 _ q⟩
theorem xM:∀(l:List Oper) (i:Nat) (A:St) (K:St->Prop),vops P T X ops l i A K->∃B,K B/\∀K':St->Prop,K' B->vops P T X ops l i A K'
 |[],_,A,_,h=>⟨A,h,λ_ q=>q⟩
 |o::r,i,⟨env,objs⟩,K,h=>by
  simp only[vops]at h;obtain⟨E,h1,h2⟩:=xJ h;obtain⟨B,h3,h4⟩:=xL h1;obtain⟨C,h5,h6⟩:=xM r (i+1) B K h3;exact⟨C,h5,λK' q=>by simp only[vops];exact h2 _ (h4 _ (h6 K' q))⟩
theorem tU:∀(l:List Oper) (i:Nat) (A:St) (acc:List (Nat×Eff)) (K:St->Prop),jU P T X ops l i A acc K->∃B,K B/\∀K':St->Prop,K' B->jU P T X ops l i A acc K'
 |[],_,A,_,_,h=>⟨A,h.2,λ_ q=>⟨h.1,q⟩⟩
 |o::r,i,⟨env,objs⟩,acc,K,h=>by
  simp only[jU]at h;obtain⟨E,h1,h2⟩:=xJ h;obtain⟨B,h3,h4⟩:=xL h1;obtain⟨C,h5,h6⟩:=tU r (i+1) B _ K h3;exact⟨C,h5,λK' q=>by simp only[jU];exact h2 _ (h4 _ (h6 K' q))⟩
end
section
variable {P:Program} {T:Tab} {ops:Array Oper}
def frE(pid:List Nat)(nt:Nat):Frm:=⟨⟨default,none⟩,λ_=>False,pid,λ_=>(none,0),nt⟩
theorem Gg(pid:List Nat)(nt:Nat)(w0:World0)(Im0:Nat->Prop)(ρ0:Loc)(i:Nat)(o:Oper)(A:St)(k:Eff->Prop):vopG P T (frE pid nt) ops i o A k=vopG P T ⟨w0,Im0,pid,ρ0,nt⟩ ops i o A k:=rfl
theorem Gh(pid:List Nat)(nt:Nat)(w0:World0)(Im0:Nat->Prop)(ρ0:Loc):∀(l:List Oper) (i:Nat) (A:St) (K:St->Prop),vops P T (frE pid nt) ops l i A K=vops P T ⟨w0,Im0,pid,ρ0,nt⟩ ops l i A K
 |[],_,_,_=>rfl
 |o::r,i,⟨env,objs⟩,K=>by
  simp only[vops];rw[Gg pid nt w0 Im0 ρ0];have e:∀B,vops P T (frE pid nt) ops r (i+1) B K=vops P T ⟨w0,Im0,pid,ρ0,nt⟩ ops r (i+1) B K:=λB=>Gh pid nt w0 Im0 ρ0 r (i+1) B K;simp only[e]
theorem Bm(pid:List Nat)(nt:Nat)(w0:World0)(Im0:Nat->Prop)(ρ0:Loc):∀(l:List Oper) (i:Nat) (A:St) (acc:List (Nat×Eff)) (K:St->Prop),jU P T (frE pid nt) ops l i A acc K=jU P T ⟨w0,Im0,pid,ρ0,nt⟩ ops l i A acc K
 |[],_,_,_,_=>rfl
 |o::r,i,⟨env,objs⟩,acc,K=>by
  simp only[jU];rw[Gg pid nt w0 Im0 ρ0];have e:∀B acc,jU P T (frE pid nt) ops r (i+1) B acc K=jU P T ⟨w0,Im0,pid,ρ0,nt⟩ ops r (i+1) B acc K:=λB acc=>Bm pid nt w0 Im0 ρ0 r (i+1) B acc K;simp only[e]
end
section
variable {P:Program}
structure GoodE(P:Program)(pid:List Nat)(nt:Nat)(c:Code)(A:St)(K:Exit->St->Prop):Prop where
 ex:∃e B,K e B/\∀w0 Im0 ρ0,GoodS P ⟨w0,Im0,pid,ρ0,nt⟩ c A (λe' B'=>e'=e/\B'=B)
structure LoopE(P:Program)(pid:List Nat)(nt:Nat)(c:Code)(A:St)(K:Exit->St->Prop):Prop where
 good:GoodE P pid nt c A K
def seqE(P:Program)(pid:List Nat)(nt:Nat)(b:Code)(K:Exit->St->Prop):Exit->St->Prop
 |.normal,B=>GoodE P pid nt b B K
 |e,B=>K e B
def scopeK(K:Exit->St->Prop):Exit->St->Prop
 |.goto _,_=>False
 |e,B=>K e B
def vcE(P:Program)(T:Tab)(pid:List Nat)(nt:Nat):Code->St->(Exit->St->Prop)->Prop
 |.skip,A,K=>K .normal A
 |.region _ ops false,A,K=>vops P T (frE pid nt) ops ops.toList 0 A (K .normal)
 |.region _ ops true,A,K=>jU P T (frE pid nt) ops ops.toList 0 A [] (K .normal)
 |.seq a b,A,K=>vcE P T pid nt a A (seqE P pid nt b K)
 |.cond c x y,A,K=>match opdV A.s c with
  |some (.bool b)=>fork b (GoodE P pid nt x A K) (GoodE P pid nt y A K)
  |_=>False
 |.block id c,A,K=>vcE P T pid nt c A (xC id K)
 |.exit id,A,K=>K (.exit id) A
 |.ret,A,K=>K .ret A
 |.label _,A,K=>K .normal A
 |.scope c,A,K=>vcE P T pid nt c A (scopeK K)
 |c,A,K=>LoopE P pid nt c A K
theorem Et{T:Tab}(hm:P.follows .mixedOrders=true)(hT:fB P T){pid:List Nat}{nt:Nat}{c:Code}{A:St}{K:Exit->St->Prop}(h:vcE P T pid nt c A K):GoodE P pid nt c A K:=by
 induction c generalizing A K with
 |skip=>exact⟨_,_,h,λw0 Im0 ρ0=>⟨λa w hr=>wpIn_skip ⟨A,⟨rfl,rfl⟩,hr⟩⟩⟩
 |region id ops draw=>
  cases draw with
  |false=>
   obtain⟨B,h1,h2⟩:=xM _ _ _ _ h;refine⟨.normal,B,h1,λw0 Im0 ρ0=>vZ hm hT (T:=T) ?_⟩;show vops P T ⟨w0,Im0,pid,ρ0,nt⟩ ops ops.toList 0 A _;rw[<-Gh];exact h2 _ ⟨rfl,rfl⟩
  |true=>
   obtain⟨B,h1,h2⟩:=tU _ _ _ _ _ h;refine⟨.normal,B,h1,λw0 Im0 ρ0=>vZ hm hT (T:=T) ?_⟩;show jU P T ⟨w0,Im0,pid,ρ0,nt⟩ ops ops.toList 0 A [] _;rw[<-Bm];exact h2 _ ⟨rfl,rfl⟩
 |seq x y ihx _=>
  obtain⟨e,B,h1,h2⟩:=ihx h;cases e with
  |normal=>
   obtain⟨e2,B2,h3,h4⟩:=h1;refine⟨e2,B2,h3,λw0 Im0 ρ0=>⟨λa w hr=>wpIn_seq (Go.wpIn_mono ((h2 w0 Im0 ρ0).run a w hr) λe' a' w'=>?_)⟩⟩;rintro⟨B',⟨rfl,rfl⟩,hr'⟩;exact(h4 w0 Im0 ρ0).run a' w' hr'
  |_=>
   refine⟨_,B,h1,λw0 Im0 ρ0=>⟨λa w hr=>wpIn_seq (Go.wpIn_mono ((h2 w0 Im0 ρ0).run a w hr) λe' a' w'=>?_)⟩⟩;rintro⟨B',⟨rfl,rfl⟩,hr'⟩;exact⟨_,⟨rfl,rfl⟩,hr'⟩
 |cond c x y _ _=>
  simp only[vcE]at h;generalize hc:opdV A.s c=g at h;rcases g with _|v
  ·exact h.elim
  ·cases v with
   |bool b=>
    have key:∀w0 Im0 ρ0 a w,Rel ⟨w0,Im0,pid,ρ0,nt⟩ A.s A.o a w->a.eval c=.bool b:=by
     rintro w0 Im0 ρ0 a w ⟨ρ,Im,hr'⟩;exact(hr'.opd hc).bool_inv
    cases b with
    |true=>
     obtain⟨e,B,h1,h2⟩:=h;exact⟨e,B,h1,λw0 Im0 ρ0=>⟨λa w hr=>wpIn_cond_split (key _ _ _ _ _ hr) (λ_=>(h2 w0 Im0 ρ0).run a w hr) (λhf=>by cases hf)⟩⟩
    |false=>
     obtain⟨e,B,h1,h2⟩:=h;exact⟨e,B,h1,λw0 Im0 ρ0=>⟨λa w hr=>wpIn_cond_split (key _ _ _ _ _ hr) (λhf=>by cases hf) (λ_=>(h2 w0 Im0 ρ0).run a w hr)⟩⟩
   |_=>exact h.elim
 |block id c ih=>
  obtain⟨e,B,h1,h2⟩:=ih h;cases e with
  |exit i=>
   simp only[xC]at h1;split at h1
   ·rename_i hb;refine⟨.normal,B,h1,λw0 Im0 ρ0=>⟨λa w hr=>wpIn_block (Go.wpIn_mono ((h2 w0 Im0 ρ0).run a w hr) λe' a' w'=>?_)⟩⟩;rintro⟨B',⟨rfl,rfl⟩,hr'⟩;simp only[Exit.inBlock];rw[if_pos (Nat.eq_of_beq_eq_true hb)];exact⟨_,⟨by trivial,rfl⟩,hr'⟩
   ·rename_i hb;refine⟨.exit i,B,h1,λw0 Im0 ρ0=>⟨λa w hr=>wpIn_block (Go.wpIn_mono ((h2 w0 Im0 ρ0).run a w hr) λe' a' w'=>?_)⟩⟩;rintro⟨B',⟨rfl,rfl⟩,hr'⟩;simp only[Exit.inBlock];rw[if_neg (λe=>by rw[e,Nat.beq_refl]at hb;cases hb)];exact⟨_,⟨by trivial,rfl⟩,hr'⟩
  |_=>
   refine⟨_,B,h1,λw0 Im0 ρ0=>⟨λa w hr=>wpIn_block (Go.wpIn_mono ((h2 w0 Im0 ρ0).run a w hr) λe' a' w'=>?_)⟩⟩;rintro⟨B',⟨rfl,rfl⟩,hr'⟩;exact⟨_,⟨rfl,rfl⟩,hr'⟩
 |exit id=>exact⟨_,_,h,λw0 Im0 ρ0=>⟨λa w hr=>wpIn_exit ⟨A,⟨rfl,rfl⟩,hr⟩⟩⟩
 |ret=>exact⟨_,_,h,λw0 Im0 ρ0=>⟨λa w hr=>wpIn_ret ⟨A,⟨rfl,rfl⟩,hr⟩⟩⟩
 |label l=>exact⟨_,_,h,λw0 Im0 ρ0=>⟨λa w hr=>wpIn_label ⟨A,⟨rfl,rfl⟩,hr⟩⟩⟩
 |scope c ih=>
  obtain⟨e,B,h1,h2⟩:=ih h;cases e with
  |goto l=>exact h1.elim
  |_=>
   refine⟨_,B,h1,λw0 Im0 ρ0=>⟨λa w hr=>zA (Go.wpIn_mono ((h2 w0 Im0 ρ0).run a w hr) λe' a' w'=>?_)⟩⟩;rintro⟨B',⟨rfl,rfl⟩,hr'⟩;exact⟨_,⟨rfl,rfl⟩,hr'⟩
 |_=>exact h.good
def cb(pid:List Nat)(nt:Nat)(A B:St):Prop:=∀w0 Im0 ρ0,Ghost ⟨w0,Im0,pid,ρ0,nt⟩ A B
theorem cb.rfl{pid:List Nat}{nt:Nat}{A:St}:cb pid nt A A:=λ_ _ _=>Ghost.rfl
theorem cb.trans{pid:List Nat}{nt:Nat}{A B C:St}(h:cb pid nt A B)(k:cb pid nt B C):cb pid nt A C:=λw0 Im0 ρ0=>(h w0 Im0 ρ0).trans (k w0 Im0 ρ0)
theorem dG{pid:List Nat}{nt:Nat}(re:List (Nat×Nat)){A B:St}(h:Sub (frE pid nt) re A B):cb pid nt A B:=λ_ _ _=>fF re h
theorem lR{pid:List Nat}{nt:Nat}{A:St}(id:Nat){ob:LObj}(hob:luB A.objs id=some ob)(hp:pid.elem id=false)(him:imOf ob)(hc:rK id ob A.env)(hoc:jM id ob A.objs):cb pid nt A (A.frz id ob):=λ_ _ _=>nM id hob hp him hc hoc
theorem bm{pid:List Nat}{nt:Nat}{c:Code}{A B:St}{K:Exit->St->Prop}(hg:cb pid nt A B)(h:GoodE P pid nt c B K):GoodE P pid nt c A K:=by
 obtain⟨e,C,h1,h2⟩:=h;exact⟨e,C,h1,λw0 Im0 ρ0=>gM (hg w0 Im0 ρ0) (h2 w0 Im0 ρ0)⟩
def Gi(pid:List Nat)(nt:Nat){ι:Type}(F:ι->St)(μ:ι->Nat)(i:ι)(K:Exit->St->Prop):Exit->St->Prop
 |.normal,B=>∃j,cb pid nt B (F j)/\μ j<μ i
 |e,B=>K e B
theorem j5{pid:List Nat}{nt:Nat}{c:Code}{A:St}{K:Exit->St->Prop}{ι:Type}(F:ι->St)(μ:ι->Nat)(i0:ι)(h0:cb pid nt A (F i0))(h:∀i,GoodE P pid nt c (F i) (Gi pid nt F μ i K)):LoopE P pid nt (.loop c) A K:=by
 have key:∀(n:Nat) (i:ι),μ i=n->∃e B,K e B/\∀(w0:World0) Im0 ρ0 a w,Rel ⟨w0,Im0,pid,ρ0,nt⟩ (F i).s (F i).o a w->∀(b:Frame) k (cs:List Frame),b.roundOf=(rf w0.ro).round->(rf w0.ro).fn b.fn->(rf w0.ro).room (cs.length+1+0)->
   ∃a' w',Rel ⟨w0,Im0,pid,ρ0,nt⟩ B.s B.o a' w'/\ArrivesIn (Machine.fenced P (rf w0.ro)) P (lone (b.atR a (.code c::.inLoop c::k)) cs w) b k cs e a' w':=by
  intro n;induction n using Nat.strongRecOn with
  |_ n ih=>
   intro i hn;obtain⟨e,B,h1,h2⟩:=h i;have run:∀(w0:World0) Im0 ρ0 a w,Rel ⟨w0,Im0,pid,ρ0,nt⟩ (F i).s (F i).o a w->∀(b:Frame) k (cs:List Frame),b.roundOf=(rf w0.ro).round->(rf w0.ro).fn b.fn->(rf w0.ro).room (cs.length+1+0)->∃a' w',Rel ⟨w0,Im0,pid,ρ0,nt⟩ B.s B.o a' w'/\ArrivesIn (Machine.fenced P (rf w0.ro)) P (lone (b.atR a (.code c::.inLoop c::k)) cs w) b (.inLoop c::k) cs e a' w':=by
    intro w0 Im0 ρ0 a w hI b k cs hro hb hrm;obtain⟨e',a₁,w₁,⟨B',⟨rfl,rfl⟩,hB⟩,harr⟩:=(h2 w0 Im0 ρ0).run a w hI b (.inLoop c::k) cs hro hb hrm;exact⟨a₁,w₁,hB,harr⟩
   cases e with
   |normal=>
    obtain⟨j,hg,hlt⟩:=h1;obtain⟨e2,B2,h3,h4⟩:=ih (μ j) (hn▸hlt) j _root_.rfl;refine⟨e2,B2,h3,λw0 Im0 ρ0 a w hI b k cs hro hb hrm=>?_⟩;obtain⟨a₁,w₁,hB,harr⟩:=run w0 Im0 ρ0 a w hI b k cs hro hb hrm;obtain⟨a₂,w₂,hB₂,harr₂⟩:=h4 w0 Im0 ρ0 a₁ w₁ ((hg w0 Im0 ρ0).run _ _ hB) b k cs hro hb hrm;exact⟨a₂,w₂,hB₂,.of_steps (StepsIn.trans harr (.one (fenced_calm hb hrm _root_.rfl) stepR_inLoop)) harr₂⟩
   |exit id=>
    refine⟨_,B,h1,λw0 Im0 ρ0 a w hI b k cs hro hb hrm=>?_⟩;obtain⟨a₁,w₁,hB,harr⟩:=run w0 Im0 ρ0 a w hI b k cs hro hb hrm;exact⟨a₁,w₁,hB,.pass (x:=.inLoop c) rfl (λ_ _=>.inl η) harr⟩
   |goto l=>
    refine⟨_,B,h1,λw0 Im0 ρ0 a w hI b k cs hro hb hrm=>?_⟩;obtain⟨a₁,w₁,hB,harr⟩:=run w0 Im0 ρ0 a w hI b k cs hro hb hrm;exact⟨a₁,w₁,hB,.pass (x:=.inLoop c) rfl (λ_ _=>.inl η) harr⟩
   |ret=>
    refine⟨_,B,h1,λw0 Im0 ρ0 a w hI b k cs hro hb hrm=>?_⟩;obtain⟨a₁,w₁,hB,harr⟩:=run w0 Im0 ρ0 a w hI b k cs hro hb hrm;exact⟨a₁,w₁,hB,.pass (x:=.inLoop c) rfl (λ_ _=>.inl η) harr⟩
   |panic ch=>
    refine⟨_,B,h1,λw0 Im0 ρ0 a w hI b k cs hro hb hrm=>?_⟩;obtain⟨a₁,w₁,hB,harr⟩:=run w0 Im0 ρ0 a w hI b k cs hro hb hrm;exact⟨a₁,w₁,hB,.pass (x:=.inLoop c) rfl (λ_ _=>.inl η) harr⟩
   |outgrown=>
    refine⟨_,B,h1,λw0 Im0 ρ0 a w hI b k cs hro hb hrm=>?_⟩;obtain⟨a₁,w₁,hB,harr⟩:=run w0 Im0 ρ0 a w hI b k cs hro hb hrm;exact⟨a₁,w₁,hB,.pass (x:=.inLoop c) rfl (λ_ _=>.inl η) harr⟩
 obtain⟨e,B,h1,h2⟩:=key _ i0 _root_.rfl;refine⟨⟨e,B,h1,λw0 Im0 ρ0=>⟨λa w hr b k cs hro hb hrm=>?_⟩⟩⟩;obtain⟨a',w',hB,harr⟩:=h2 w0 Im0 ρ0 a w ((h0 w0 Im0 ρ0).run a w hr) b k cs hro hb hrm;exact⟨e,a',w',⟨B,⟨rfl,rfl⟩,hB⟩,.of_steps (.one (fenced_calm hb hrm _root_.rfl) stepR_loop) harr⟩
end
section
variable {P:Program} {T:Tab}
theorem iU{A:St}:∀(l:List ResultVar) {k:List AV->Prop},fG T A l k->∃vs,k vs/\∀k':List AV->Prop,k' vs->fG T A l k'
 |[],_,h=>⟨[],h,λ_ q=>q⟩
 |.tmp t::r,k,h=>by
  simp only[fG]at h⊢;generalize luS A.env t=g at h⊢;cases g with
  |none=>exact h.elim
  |some v=>
   obtain⟨vs,h1,h2⟩:=iU r h;exact⟨_,h1,λk' q=>h2 _ q⟩
 |.cell t ty::r,k,h=>by
  simp only[fG]at h⊢;generalize luS A.env t=g at h⊢;generalize luT T ty=gt at h⊢;split at h
  ·obtain⟨cs,off,ro,h1,h2⟩:=mL h;obtain⟨v,h3,h4⟩:=qz h1;obtain⟨vs,h5,h6⟩:=iU r h3;exact⟨_,h5,λk' q=>h2 _ (h4 _ (h6 _ q))⟩
  ·exact h.elim
structure FinX(T:Tab)(pid:List Nat)(nt:Nat)(rs:List ResultVar){α:Type}(g:α->AV)(outs:α->Xc)(Q:α->Prop)(B:St):Prop where
 ex:∃x,Q x/\∀w0 Im0 ρ0,FinG T ⟨w0,Im0,pid,ρ0,nt⟩ rs (g x) (outs x) B
def FinE(T:Tab)(pid:List Nat)(nt:Nat)(rs:List ResultVar){α:Type}(g:α->AV)(outs:α->Xc)(Q:α->Prop):Exit->St->Prop
 |.normal,B=>FinX T pid nt rs g outs Q B
 |.ret,B=>FinX T pid nt rs g outs Q B
 |_,_=>False
theorem ao{T : Tab}(hT : fB P T){f : FuncId}{fn : Func}(c : Code)(nt : Nat)(rs : List ResultVar)(hf : P.funcs[f]? =some fn)(hb : fn.body=some c)(hname : (fn.name== "runtime.NumGoroutine")=false)(hnt : fn.ntmps=nt)(hrs : fn.results.toList=rs)
  {args:List AV} {ins:Xc} {α:Type} {g:α->AV} {outs:α->Xc} {Q:α->Prop} (hlen:args.length<=nt)
  (hcl:(ins.all λp=>p.2.live)=true/\nmL (ins.map (·.1)) args=true/\(∀p∈ins,obCl (ins.map (·.1)) p.2))
  (hco:∀x,nmV ((outs x).map (·.1)) (g x)=true/\(∀p∈outs x,obCl ((outs x).map (·.1)) p.2)/\(ins.all λp=>((outs x).map (·.1)).elem p.1)=true)
  (h:GoodE P (ins.map (·.1)) nt c ⟨kA 0 args,aS ins⟩ (FinE T (ins.map (·.1)) nt rs g outs Q)):∃x,Q x/\CallSpec P f args ins (g x) (outs x):=by
 obtain⟨e,B,h1,h2⟩:=h;have key:∀x,Q x->(∀w0 Im0 ρ0,Fin T ⟨w0,Im0,ins.map (·.1),ρ0,nt⟩ rs (g x) (outs x) e B)->∃x,Q x/\CallSpec P f args ins (g x) (outs x):=λx hq hf2=>by
  obtain⟨c1,c2,c3⟩:=hco x;refine⟨x,hq,aM hT c nt rs hf hb hname hnt hrs hlen ⟨hcl.1,hcl.2.1,c1,hcl.2.2,c2,c3⟩ λw0 Im0 ρ0=>(h2 w0 Im0 ρ0).mono ?_⟩;rintro e' B' ⟨rfl,rfl⟩;exact hf2 w0 Im0 ρ0
 cases e with
 |normal=>obtain⟨x,hq,hx⟩:=h1;exact key x hq hx
 |ret=>obtain⟨x,hq,hx⟩:=h1;exact key x hq hx
 |_=>exact h1.elim
theorem ac{pid:List Nat}{nt:Nat}{rs:List ResultVar}{α:Type}{g:α->AV}{Q:α->Prop}{B:St}(h:fG T B rs λvs=>∃x,fW vs=g x/\Q x):FinX T pid nt rs g (λ_=>[]) Q B:=by
 obtain⟨vs,⟨x,h1,h2⟩,h3⟩:=iU rs h;exact⟨x,h2,λw0 Im0 ρ0=>⟨B,Ghost.rfl,h3 _ (by rw[h1];exact Ψ),trivial⟩⟩
theorem aF{pid:List Nat}{nt:Nat}{rs:List ResultVar}{α:Type}{g:α->AV}{outs:α->Xc}{Q:α->Prop}{B:St}(h:fG T B rs λvs=>∃x,fW vs=g x/\dB B.o (outs x)/\Q x):FinX T pid nt rs g outs Q B:=by
 obtain⟨vs,⟨x,h1,h4,h2⟩,h3⟩:=iU rs h;exact⟨x,h2,λw0 Im0 ρ0=>⟨B,Ghost.rfl,h3 _ (by rw[h1];exact Ψ),h4⟩⟩
theorem b7{pid:List Nat}{nt:Nat}{rs:List ResultVar}{α:Type}{g:α->AV}{outs:α->Xc}{Q:α->Prop}{B:St}(ks os:List Nat)(re:List (Nat×Nat))(e:List (Nat×AV))(o:Xb)(h:Sub (frE pid nt) re B (B.kp ks os e o))
  (k:kpK B ks os e o (FinX T pid nt rs g outs Q)):FinX T pid nt rs g outs Q B:=by
 obtain⟨x,hq,hx⟩:=ig k;refine⟨x,hq,λw0 Im0 ρ0=>?_⟩;obtain⟨C,h1,h2⟩:=hx w0 Im0 ρ0;exact⟨C,(dG re h w0 Im0 ρ0).trans h1,h2⟩
theorem bP{pid:List Nat}{nt:Nat}{rs:List ResultVar}{α:Type}{g:α->AV}{outs:α->Xc}{Q:α->Prop}{B:St}(id:Nat){ob:LObj}(hob:luB B.objs id=some ob)(hp:pid.elem id=false)(him:imOf ob)(hc:rK id ob B.env)(hoc:jM id ob B.objs)
  (k:FinX T pid nt rs g outs Q (B.frz id ob)):FinX T pid nt rs g outs Q B:=by
 obtain⟨x,hq,hx⟩:=k;refine⟨x,hq,λw0 Im0 ρ0=>?_⟩;obtain⟨C,h1,h2⟩:=hx w0 Im0 ρ0;exact⟨C,(lR id hob hp him hc hoc w0 Im0 ρ0).trans h1,h2⟩
theorem cT{pid:List Nat}{nt:Nat}{rs:List ResultVar}{α:Type}{g:α->AV}{Q:α->Prop}{B:St}(h:fG T B rs λvs=>∃x,AvLe (fW vs) (g x)/\Q x):FinX T pid nt rs g (λ_=>[]) Q B:=by
 obtain⟨vs,⟨x,h1,h2⟩,h3⟩:=iU rs h;exact⟨x,h2,λw0 Im0 ρ0=>⟨B,Ghost.rfl,h3 _ h1,trivial⟩⟩
theorem ae{pid:List Nat}{nt:Nat}{c:Code}{A:St}{K:Exit->St->Prop}{ι:Type}(ks os:List Nat)(re0:List (Nat×Nat))(i0:ι)(μ:ι->Nat)(e:ι->List (Nat×AV))(o:ι->Xb)
  (h0:Sub (frE pid nt) re0 A (A.kp ks os (e i0) (o i0))) (h:∀i,kpK A ks os (e i) (o i) λB=>GoodE P pid nt c B (Gi pid nt (λi=>A.kp ks os (e i) (o i)) μ i K)):LoopE P pid nt (.loop c) A K :=
 j5 (λi=>A.kp ks os (e i) (o i)) μ i0 (dG re0 h0) λi=>ig (h i)
theorem aO{pid:List Nat}{nt:Nat}{ι:Type}{F:ι->St}{μ:ι->Nat}{m:Nat}{B:St}(re:List (Nat×Nat))(j:ι)(hs:Sub (frE pid nt) re B (F j))(hm:μ j<m):∃j,cb pid nt B (F j)/\μ j<m:=⟨j,dG re hs,hm⟩
theorem am{pid:List Nat}{nt:Nat}{c:Code}{A:St}{K:Exit->St->Prop}(ks os:List Nat)(re:List (Nat×Nat))(e:List (Nat×AV))(o:Xb)(h:Sub (frE pid nt) re A (A.kp ks os e o))(k:kpK A ks os e o λB=>GoodE P pid nt c B K):GoodE P pid nt c A K :=
 bm (dG re h) (ig k)
theorem ax{pid:List Nat}{nt:Nat}{c:Code}{A:St}{K:Exit->St->Prop}(id:Nat){ob:LObj}(hob:luB A.objs id=some ob)(hp:pid.elem id=false)(him:imOf ob)(hc:rK id ob A.env)(hoc:jM id ob A.objs)(h:GoodE P pid nt c (A.frz id ob) K):GoodE P pid nt c A K :=
 bm (lR id hob hp him hc hoc) h
end
open Go.Proofs in
theorem gvE{pid:List Nat}{nt:Nat}{c:Code}{A:St}{K:Exit->St->Prop}(h:vcE prog T pid nt c A K):GoodE prog pid nt c A K:=Et mixed aB h
open Go.Proofs
theorem bk{p:Prop}(h:p:=by
 first
 |((first|(refine gvE ?_;conv=>whnf)|(refine aa (λhb=>?_) (λhb=>?_)<;>conv=>whnf)|(refine ak (λhb=>?_) (λhb=>?_)<;>conv=>whnf)|(refine ac ?_;conv=>whnf)|(refine Side.mk ?_ ?_;rotate_left;conv=>whnf)|(refine SubS.mk ?_ ?_;rotate_left;conv=>whnf)|(refine VCells.mk ⟨_,rfl,?_⟩;conv=>whnf)|(refine DrawOk.mk ⟨rfl,rfl⟩ ?_;conv=>whnf)|(refine aH (λhb=>?_) (λhb=>?_)<;>conv=>whnf)|fail);all_goals(rcases qx _ rfl with hq;exact hq))
 |fail):p:=h
theorem Eu{p:Prop}(h:p:=by
 first
 |((first|(refine gvE ?_;conv=>whnf)|(refine aa (λhb=>?_) (λhb=>?_)<;>conv=>whnf)|(refine ak (λhb=>?_) (λhb=>?_)<;>conv=>whnf)|(refine aF ?_;conv=>whnf)|(refine Side.mk ?_ ?_;rotate_left;conv=>whnf)|(refine SubS.mk ?_ ?_;rotate_left;conv=>whnf)|(refine VCells.mk ⟨_,rfl,?_⟩;conv=>whnf)|(refine DrawOk.mk ⟨rfl,rfl⟩ ?_;conv=>whnf)|(refine aH (λhb=>?_) (λhb=>?_)<;>conv=>whnf)|fail);all_goals(rcases qx _ rfl with hq;exact hq))
 |fail):p:=h
theorem ag{p:Prop}(h:p:=by
 first
 |((first|(refine gvE ?_;conv=>whnf)|(refine aa (λhb=>?_) (λhb=>?_)<;>conv=>whnf)|(refine ak (λhb=>?_) (λhb=>?_)<;>conv=>whnf)|(refine Side.mk ?_ ?_;rotate_left;conv=>whnf)|(refine SubS.mk ?_ ?_;rotate_left;conv=>whnf)|(refine VCells.mk ⟨_,rfl,?_⟩;conv=>whnf)|(refine DrawOk.mk ⟨rfl,rfl⟩ ?_;conv=>whnf)|(refine aH (λhb=>?_) (λhb=>?_)<;>conv=>whnf)|fail);all_goals(rcases qx _ rfl with hq;exact hq))
 |fail):p:=h
theorem opE{f:FuncId}{fn:Func}{c:Code}{nt:Nat}{rs:List ResultVar}{args:List AV}{ins:Xc}{α:Type}{g:α->AV}{outs:α->Xc}{Q:α->Prop}(hf:prog.funcs[f]? =some fn)(hnt:fn.ntmps=nt)(hrs:fn.results=rs.toArray)
  (h : GoodE prog (ins.map (·.1)) nt c ⟨kA 0 args, aS ins⟩ (FinE T (ins.map (·.1)) nt rs g outs Q)) (hb : fn.body=some c := by exact rfl) (hname : (fn.name== "runtime.NumGoroutine")=false := by kernel_rfl) (hlen : args.length≤nt := by simp)
  (hcl:(ins.all λp=>p.2.live)=true/\nmL (ins.map (·.1)) args=true/\(∀p∈ins,obCl (ins.map (·.1)) p.2):=by exact⟨rfl,rfl,by simp⟩)
  (hco:∀x,nmV ((outs x).map (·.1)) (g x)=true/\(∀p∈outs x,obCl ((outs x).map (·.1)) p.2)/\(ins.all λp=>((outs x).map (·.1)).elem p.1)=true:=by exactλx=>⟨rfl,by simp,rfl⟩):∃x,Q x/\q0c f args ins (g x) (outs x) :=
 ao aB c nt rs hf hb hname hnt (by rw[hrs]) hlen hcl hco h
mutual
theorem cS:∀v:AV,reV (luN []) v=v
 |.fn g cs=>by unfold reV;rw[reL_id cs]
 |.agg cs=>by unfold reV;rw[reL_id cs]
 |.tup cs=>by unfold reV;rw[reL_id cs]
 |.lptr .. |.osl .. |.osub .. |.optr .. |.mref .. |.yld ..=>rfl
 |.int .. |.bool .. |.str .. |.junk|.isl .. |.icap .. |.eptr .. |.ibox .. |.nils|.emp|.niface|.nfunc|.nptr|.nmap|.iface ..=>rfl
theorem reL_id:∀l:List AV,reL (luN []) l=l
 |[]=>rfl
 |c::cs=>by unfold reL;rw[cS c,reL_id cs]
end
theorem Bn(ob:LObj):reO (luN []) ob=ob:=by
 cases ob with
 |box cs=>show LObj.box _=_;rw[reL_id]
 |arr n sz get T=>show LObj.arr n sz _ T=_;congr 1;funext i;exact reL_id _
 |map kvs=>show LObj.map _=_;congr 1;simp[cS]
 |lrec=>show LObj.lrec .. =_;rw[reL_id]
 |dead=>rfl
theorem iV(ob:LObj):ObLe ob (reO (luN []) ob):=by rw[Bn];exact q0a
structure WfC(c:Curve):Prop where
 len:1<=c.vals.length/\c.vals.length<=400
 per:1<=c.per/\c.per<=120/\c.per<=c.vals.length
 inc:0<=c.inc/\c.inc<=1073741824
 val:∀v∈c.vals,(0<=v/\v<=1073741824)\/v=inf
 last:c.vals.getD (c.vals.length-1) 0=inf->c.inc=0
def a6:Except Int Curve->AV
 |.ok c=>.tup [c.av,J 0]
 |.error e=>.tup [.agg [.nils,J 0,J 0],J e]
theorem aC(x:Except Int Curve)(ids:List Nat):nmV ids (a6 x)=true:=by
 cases x<;>rfl
theorem aU{P:Program}{f:FuncId}{vs:List AV}{o:Xd}{k:List Nat->AV->Xb->Prop}{r:AV}{ins:Xc}(h:CallSpec P f vs ins r ins)(hin:dB o ins)(hout:fk o ins ins)(hk:k (ins.map (·.1)++ins.map (·.1)) r (aS ins)):vCall P f vs o k:=⟨r,ins,ins,h,hin,hout,hk⟩
mutual
theorem br(ids:List Nat):∀v:AV,nmV [] v=true->nmV ids v=true
 |.fn g cs,h=>by unfold nmV at h⊢;exact nmL_mono ids cs h
 |.agg cs,h=>by unfold nmV at h⊢;exact nmL_mono ids cs h
 |.tup cs,h=>by unfold nmV at h⊢;exact nmL_mono ids cs h
 |.lptr ..,h=>by cases h
 |.osl ..,h=>by cases h
 |.osub ..,h=>by cases h
 |.optr ..,h=>by cases h
 |.mref ..,h=>by cases h
 |.yld ..,h=>by cases h
 |.int ..,_|.bool ..,_|.str ..,_|.junk,_|.isl ..,_|.icap ..,_|.eptr ..,_|.ibox ..,_|.nils,_|.emp,_|.niface,_|.nfunc,_|.nptr,_|.nmap,_|.iface ..,_=>rfl
theorem nmL_mono(ids:List Nat):∀l:List AV,nmL [] l=true->nmL ids l=true
 |[],_=>rfl
 |c::cs,h=>by
  unfold nmL at h⊢;rw[Bool.and_eq_true]at h⊢;exact⟨br ids c h.1,nmL_mono ids cs h.2⟩
end
theorem aV{ob:LObj}(h:obCl [] ob)(ids:List Nat):obCl ids ob:=by
 cases ob with
 |box cs=>exact nmL_mono ids _ h
 |arr n sz get T=>exactλi hi=>nmL_mono ids _ (h i hi)
 |map kvs=>exactλk v hm=>⟨br ids _ (h k v hm).1,br ids _ (h k v hm).2⟩
 |lrec=>exact nmL_mono ids _ h
 |dead=>trivial
theorem sq1{p:Prop}(h:p:=by first|((repeat'(first|exact True.intro|refine And.intro ?_ ?_))<;>first|rfl|exact Ψ|exactλ_ _=>rfl|(refine Ξ ?_;first|omega|(dsimp only;omega)|rfl)|exact aV ‹_› _|((conv=>whnf)<;>first|exact q0a|exact Ψ|exact iV _))|fail):p:=h
theorem subP{p:Prop}(h:p:=by
 first|(((repeat'(first|exact True.intro|refine And.intro ?_ ?_))<;>first|rfl|exact aV ‹_› _|conv=>whnf);all_goals(rcases xE _ rfl with hq;exact hq))|fail):p:=h
theorem aL{pid:List Nat}{nt:Nat}{ι:Type}{F:ι->St}{μ:ι->Nat}{m:Nat}{B:St}(re:List (Nat×Nat))(j:ι)(hs:Sub (frE pid nt) re B (F j):=by first|exact⟨⟨rfl,rfl⟩,sq1,sq1⟩|fail)(hm:μ j<m:=by first|omega|(dsimp only;omega)):∃j,cb pid nt B (F j)/\μ j<m:=⟨j,dG re hs,hm⟩
theorem aT{pid:List Nat}{nt:Nat}{ι:Type}{F:ι -> St}{μ:ι -> Nat}{m:Nat}{B:St}(re:List (Nat × Nat))(j:ι)(hs:Sub (frE pid nt) re B (F j):=by
 first|(refine⟨⟨rfl,rfl⟩,?_,?_⟩<;>((((repeat'(first|exact True.intro|refine And.intro ?_ ?_))<;>first|rfl|exact aV ‹_› _|conv=>whnf));all_goals(rcases xE _ rfl with hq;exact hq)))|fail) (hm:μ j<m:=by first|omega|(dsimp only;omega)):∃j,cb pid nt B (F j)/\μ j<m:=⟨j,dG re hs,hm⟩
end Go.Nc