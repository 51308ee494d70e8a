/- Parts. -/
import Derived.Scope
import Derived.Test.YtbdkgpcdkalfdaaGreatNdBT
namespace Go.Nc
open Go.Proofs.Tryz
theorem bX{b:Bool}{p:Prop}(h:ck b p):p/\∀q:Prop,q->ck b q:=by
 cases b with
 |true=>exact⟨h,λ_ q=>q⟩
 |false=>exact h.elim
theorem F7{d:TK}{o:BinOp}{x y:AV}{k:AV->Prop}(h:Kw d o x y k):∃r,k r/\∀K:AV->Prop,K r->Kw d o x y K:=by
 unfold Kw at h;split at h;all_goals first
  |exact h.elim
  |exact⟨_,h,λ_ q=>q⟩
  |exact⟨_,h.2,λ_ q=>⟨h.1,q⟩⟩
  | (split at h
     all_goals first|exact h.elim|exact⟨_,h,λ_ q=>q⟩|exact⟨_,h.2,λ_ q=>⟨h.1,q⟩⟩)
theorem Ct{P:Program}{t:Nat}{d:TK}{o:BinOp}{x y:AV}{k:AV->Prop}(h:AH P t d o x y k):∃r,k r/\∀K:AV->Prop,K r->AH P t d o x y K:=by
 unfold AH at h⊢;split at h
 .exact⟨_,h.out,λ_ q=>.wrap q⟩
 .rename_i b;obtain⟨r,H,a⟩:=F7 h;exact⟨r,H,λK q=>a _ q⟩
theorem Ii{o:UnOp}{x:AV}{k:AV->Prop}(h:NF o x k):∃r,k r/\∀K:AV->Prop,K r->NF o x K:=by
 unfold NF at h;split at h;all_goals first|exact h.elim|exact⟨_,h,λ_ q=>q⟩|exact⟨_,h.2,λ_ q=>⟨h.1,q⟩⟩
theorem yX{mx:Bool}{v:List AV}{k:AV->Prop}(h:Ke mx v k):∃r,k r/\∀K:AV->Prop,K r->Ke mx v K:=by
 unfold Ke at h;split at h;all_goals first|exact h.elim|exact⟨_,h,λ_ q=>q⟩
theorem Cu{s d:TI}{x:AV}{k:AV->Prop}(h:AC s d x k):∃r,k r/\∀K:AV->Prop,K r->AC s d x K:=by
 unfold AC at h⊢;generalize s.tk=a at h⊢;generalize d.tk=b at h⊢;split at h
 .exact⟨_,h.2,λ_ q=>⟨h.1,q⟩⟩
 .exact⟨_,h.2,λ_ q=>⟨h.1,q⟩⟩
 .exact h.elim
theorem vz{i:Nat}{x:AV}{k:AV->Prop}(h:jD i x k):∃r,k r/\∀K:AV->Prop,K r->jD i x K:=by
 unfold jD at h⊢;cases x with
 |tup vs=>
  dsimp only at h⊢;generalize vs[i]? =g at h⊢;cases g with
  |some v=>exact⟨v,h,λ_ q=>q⟩
  |none=>exact h.elim
 |_=>exact h.elim
theorem rN{t:TI}{cs:List AV}{o:Nat}{k:AV->Prop}(h:oH t cs o k):∃r,k r/\∀K:AV->Prop,K r->oH t cs o K:=by
 unfold oH at h⊢;generalize t.agg=g at h⊢;cases g with
 |true=>exact⟨_,(bX h).1,λ_ q=>(bX h).2 _ q⟩
 |false=>
  dsimp only at h⊢;generalize cs[o]? =g at h⊢;cases g with
  |some v=>exact⟨v,h,λ_ q=>q⟩
  |none=>exact h.elim
theorem nE{o:Xd}{p:AV}{k:List AV->Nat->List Nat->Prop}(h:iB o p k):∃cs O r,k cs O r/\∀K:List AV->Nat->List Nat->Prop,K cs O r->iB o p K:=by
 unfold iB at h⊢;cases p with
 |lptr id O=>
  dsimp only at h⊢;generalize o id=g at h⊢;rcases g with _|ob
  .exact h.elim
  .cases ob with
   |box cs=>exact⟨_,_,_,h,λ_ q=>q⟩
   |_=>exact h.elim
 |ibox cs O=>exact⟨_,_,_,h,λ_ q=>q⟩
 |eptr n sz get i j=>exact⟨_,_,_,h,λ_ q=>q⟩
 |optr id sz i j=>
  dsimp only at h⊢;generalize o id=g at h⊢;rcases g with _|ob
  .exact h.elim
  .cases ob with
   |arr n sz' get T=>
    dsimp only at h⊢;obtain⟨⟨H,⟨c,a,b⟩⟩,d⟩:=bX h;exact⟨_,_,_,b,λ_ q=>d _ ⟨H,⟨c,a,q⟩⟩⟩
   |_=>exact h.elim
 |_=>exact h.elim
theorem Cv{t:TI}{A:St}{p:Operand}{k:List Nat->AV->Prop}(h:AA t A p k):∃R r,k R r/\∀K:List Nat->AV->Prop,K R r->AA t A p K:=by
 unfold AA at h⊢;generalize cm A.s p=g at h⊢;cases g with
 |none=>exact h.elim
 |some v=>
  dsimp only at h⊢;obtain⟨cs,o,R,H,a⟩:=nE h;obtain⟨r,b,c⟩:=rN H;exact⟨_,_,b,λK q=>a _ (c (K R) q)⟩
theorem AQ{t:TI}{o:Xd}{p v:AV}{k:Nat->LObj->Prop}(h:rB t o p v k):∃id ob,k id ob/\∀K:Nat->LObj->Prop,K id ob->rB t o p v K:=by
 unfold rB at h⊢;cases p with
 |lptr id off=>
  dsimp only at h⊢;generalize o id=g at h⊢;rcases g with _|ob
  .exact h.elim
  .cases ob with
   |box cs=>
    dsimp only at h⊢;exact⟨_,_,(bX h).1,λ_ q=>(bX h).2 _ q⟩
   |_=>exact h.elim
 |optr id sz i j=>
  dsimp only at h⊢;generalize o id=g at h⊢;rcases g with _|ob
  .exact h.elim
  .cases ob with
   |arr n sz' get T=>
    dsimp only at h⊢;obtain⟨⟨H,a⟩,b⟩:=bX h;exact⟨_,_,a,λ_ q=>b _ ⟨H,q⟩⟩
   |_=>exact h.elim
 |_=>exact h.elim
theorem AR{t:TI}{f:Nat}{p:AV}{k:AV->Prop}(h:r7 t f p k):∃r,k r/\∀K:AV->Prop,K r->r7 t f p K:=by
 unfold r7 at h⊢;generalize t.tk=tk at h⊢;cases tk with
 |struct=>
  dsimp only at h⊢;generalize t.flds[f]? =g at h⊢;rcases g with _|⟨o,sz⟩
  .exact h.elim
  .dsimp only at h⊢;obtain⟨H,a⟩:=bX h;generalize ik p o=s at H a⊢;cases s with
   |none=>exact H.elim
   |some v=>exact⟨v,H,λ_ q=>a _ q⟩
 |_=>exact h.elim
theorem xu{p:AV}{k:AV->Prop}(h:mA p k):∃r,k r/\∀K:AV->Prop,K r->mA p K:=by
 unfold mA at h⊢;generalize ik p 0=s at h⊢;cases s with
 |none=>exact h.elim
 |some v=>exact⟨p,h,λ_ q=>q⟩
theorem AS{T:kb}{t:TI}{x I:AV}{k:AV->Prop}(h:r8 T t x I k):∃r,k r/\∀K:AV->Prop,K r->r8 T t x I K:=by
 unfold r8 at h⊢;generalize t.tk=tk at h⊢;cases tk with
 |slice e=>
  dsimp only at h⊢;generalize gq T e=g at h⊢;cases g with
  |none=>exact h.elim
  |some te=>
   dsimp only at h⊢;split at h
   .obtain⟨⟨a,H⟩,b⟩:=bX h;exact⟨_,H,λ_ q=>b _ ⟨a,q⟩⟩
   .exact⟨_,h.2,λ_ q=>⟨h.1,q⟩⟩
   .obtain⟨⟨a,H⟩,b⟩:=bX h;exact⟨_,H,λ_ q=>b _ ⟨a,q⟩⟩
   .exact h.elim
 |arr n e=>
  dsimp only at h⊢;generalize gq T e=g at h⊢;cases g with
  |none=>exact h.elim
  |some te=>
   dsimp only at h⊢;cases I with
   |int kk i=>
    dsimp only at h⊢;obtain⟨a,H⟩:=h;generalize hs:ik x (i.toNat*te.size)=s at H;cases s with
    |none=>exact H.elim
    |some v=>exact⟨v,H,λ_ q=>⟨a,q⟩⟩
   |_=>exact h.elim
 |_=>exact h.elim
theorem F8{t:TI}{x:AV}{k:AV->Prop}(h:Kt t x k):∃r,k r/\∀K:AV->Prop,K r->Kt t x K:=by
 unfold Kt at h⊢;generalize t.tk=tk at h⊢;split at h;all_goals first|exact h.elim|exact⟨_,h,λ_ q=>q⟩
theorem AT{T:kb}{t:TI}{x:AV}{lo H:Option AV}{k:AV->Prop}(h:rA T t x lo H k):∃r,k r/\∀K:AV->Prop,K r->rA T t x lo H K:=by
 unfold rA at h⊢;generalize t.tk=tk at h⊢;cases tk with
 |slice e=>
  dsimp only at h⊢;generalize gq T e=g at h⊢;cases g with
  |none=>exact h.elim
  |some te=>
   dsimp only at h⊢;split at h;all_goals first
    |exact h.elim
    |exact⟨_,h.2,λ_ q=>⟨h.1,q⟩⟩
    | (obtain⟨⟨a,b⟩,c⟩:=bX h
       exact⟨_,b,λ_ q=>c _ ⟨a,q⟩⟩)
 |_=>exact h.elim
theorem xv{T:kb}{t:TI}{o:Xd}{x:AV}{lo b:Option AV}{k:List Nat->AV->Prop}(h:mG T t o x lo b k):∃R r,k R r/\∀K:List Nat->AV->Prop,K R r->mG T t o x lo b K:=by
 unfold mG at h⊢;split at h
 .split at h
  .rename_i e _;generalize gq T e=ge at h⊢;rcases ge with _|d
   .exact h.elim
   .dsimp only at h⊢;split at h
    .obtain⟨⟨H,a⟩,c⟩:=bX h;exact⟨_,_,a,λ_ q=>c _ ⟨H,q⟩⟩
    .exact h.elim
  .exact h.elim
 .obtain⟨r,H,a⟩:=AT h;exact⟨_,_,H,λ_ q=>a _ q⟩
theorem xw{c:Bool}{t:TI}{x b mx:AV}{k:AV->Prop}(h:mB c t x b mx k):∃r,k r/\∀K:AV->Prop,K r->mB c t x b mx K:=by
 unfold mB at h⊢;cases c with
 |false=>
  dsimp only at h⊢;generalize t.tk=tk at h⊢;cases tk with
  |slice e=>
   dsimp only at h⊢;split at h
   .exact⟨_,h.2,λ_ q=>⟨h.1,q⟩⟩
   .exact h.elim
  |_=>exact h.elim
 |true=>
 dsimp only at h⊢;generalize t.tk=tk at h⊢;cases tk with
 |slice e=>
  dsimp only at h⊢;split at h
  .obtain⟨a,H⟩:=h;cases x with
   |isl n sz get=>exact⟨_,H,λ_ q=>⟨a,q⟩⟩
   |osl id n=>exact⟨_,H,λ_ q=>⟨a,q⟩⟩
   |osub id off n sz=>exact⟨_,H,λ_ q=>⟨a,q⟩⟩
   |nils=>exact⟨_,H,λ_ q=>⟨a,q⟩⟩
   |emp=>exact⟨_,H,λ_ q=>⟨a,q⟩⟩
   |_=>exact H.elim
  .exact h.elim
 |_=>exact h.elim
theorem F9{v:AV}{k:List AV->Prop}(h:Kv v k):∃r,k r/\∀K:List AV->Prop,K r->Kv v K:=by
 unfold Kv at h⊢;cases v with
 |junk=>exact h.elim
 |_=>exact⟨_,h,λ_ q=>q⟩
theorem lp{o:Xd}{v:AV}{sz:Nat}{k:Nat->(Nat->List AV)->List Nat->Prop}(h:tp o v sz k):∃n G r,k n G r/\∀K:Nat->(Nat->List AV)->List Nat->Prop,K n G r->tp o v sz K:=by
 unfold tp at h⊢;cases v with
 |isl n sz' G=>exact⟨_,_,_,(bX h).1,λ_ q=>(bX h).2 _ q⟩
 |osl id n=>
  dsimp only at h⊢;generalize o id=g at h⊢;rcases g with _|ob
  .exact h.elim
  .cases ob with
   |arr n sz' G T=>
    dsimp only at h⊢;obtain⟨⟨H,a⟩,b⟩:=bX h;exact⟨_,_,_,a,λ_ q=>b _ ⟨H,q⟩⟩
   |_=>exact h.elim
 |nils=>exact⟨_,_,_,h,λ_ q=>q⟩
 |_=>exact h.elim
theorem xz{T:kb}{t:TI}{p:List Nat}{o:Xd}{d:Nat}{D s:AV}{k:List Nat->Nat->Xb->Prop}(h:mC T t p o d D s k) :
  ∃r n w,k r n w/\∀K:List Nat->Nat->Xb->Prop,K r n w->mC T t p o d D s K:=by
 unfold mC at h⊢;generalize t.tk=tk at h⊢;cases tk with
 |slice e =>
  dsimp only at h⊢;generalize gq T e=g at h⊢;cases g with
  |none=>exact h.elim
  |some te=>
   dsimp only at h⊢;cases D with
   |nils=>
    dsimp only at h⊢;obtain⟨H,a⟩:=bX h;obtain⟨n,G,r,⟨b,c⟩,f⟩:=lp H;exact⟨_,_,_,c,λ_ q=>a _ (f _ ⟨b,q⟩)⟩
   |emp=>
    dsimp only at h⊢;obtain⟨H,a⟩:=bX h;obtain⟨n,G,r,⟨b,c⟩,f⟩:=lp H;exact⟨_,_,_,c,λ_ q=>a _ (f _ ⟨b,q⟩)⟩
   |icap n sz1 get1=>
    dsimp only at h⊢;obtain⟨H,a⟩:=bX h;obtain⟨n,G,r,⟨b,c⟩,f⟩:=lp H;exact⟨_,_,_,c,λ_ q=>a _ (f _ ⟨b,q⟩)⟩
   |osl id n=>
    dsimp only at h⊢;generalize o id=g at h⊢;rcases g with _|ob
    .exact h.elim
    .cases ob with
     |arr n sz' G T=>
      dsimp only at h⊢;obtain⟨H,a⟩:=bX h;obtain⟨n,G,r,⟨b,c⟩,f⟩:=lp H;exact⟨_,_,_,c,λ_ q=>a _ (f _ ⟨b,q⟩)⟩
     |_=>exact h.elim
   |_=>exact h.elim
 |_=>exact h.elim
theorem AU{T:kb}{t:TI}{ps:List (Nat×AV)}{k:AV->Prop}(h:rC T t ps k):∃r,k r/\∀K:AV->Prop,K r->rC T t ps K:=by
 unfold rC at h⊢;generalize t.tk=tk at h⊢;cases tk with
 |struct=>
  dsimp only at h⊢;obtain⟨H,a⟩:=bX h;generalize fh (λi=>t.flds[i]?) t.zero ps=g at H a⊢;cases g with
  |none=>exact H.elim
  |some cs=>exact⟨_,H,λ_ q=>a _ q⟩
 |arr n e=>
  dsimp only at h⊢;generalize gq T e=g at h⊢;cases g with
  |none=>exact h.elim
  |some te=>
   dsimp only at h⊢;generalize fh (λi=>some (i*te.size,te.size)) t.zero ps=g at h⊢;cases g with
   |none=>exact h.elim
   |some cs=>exact⟨_,h,λ_ q=>q⟩
 |_=>exact h.elim
theorem Cw{T:kb}{t:TI}{l c:AV}{k:Nat->LObj->Prop}(h:AF T t l c k):∃n ob,k n ob/\∀K:Nat->LObj->Prop,K n ob->AF T t l c K:=by
 unfold AF at h⊢;generalize t.tk=tk at h⊢;cases tk with
 |slice e=>
  dsimp only at h⊢;generalize gq T e=g at h⊢;cases g with
  |none=>exact h.elim
  |some te=>
   dsimp only at h⊢;split at h
   .obtain⟨⟨H,a⟩,b⟩:=bX h;exact⟨_,_,a,λ_ q=>b _ ⟨H,q⟩⟩
   .exact h.elim
 |_=>exact h.elim
theorem FA{T:kb}{t:TI}{len:Nat}{ps:List (Nat×AV)}{k:LObj->Prop}(h:Ks T t len ps k):∃r,k r/\∀K:LObj->Prop,K r->Ks T t len ps K:=by
 unfold Ks at h⊢;generalize t.tk=tk at h⊢;cases tk with
 |slice e=>
  dsimp only at h⊢;generalize gq T e=g at h⊢;cases g with
  |none=>exact h.elim
  |some te=>
   dsimp only at h⊢;obtain⟨H,a⟩:=bX h;generalize fh (λi=>some (i*te.size,te.size)) (f0 len te.zero) ps=g at H a⊢;cases g with
   |none=>exact H.elim
   |some cs=>exact⟨_,H,λ_ q=>a _ q⟩
 |_=>exact h.elim
theorem x4{T:kb}{t:TI}{o:Xd}{m key:AV}{O:Bool}{k:List Nat->AV->Prop}(h:mF T t o m key O k):∃R r,k R r/\∀K:List Nat->AV->Prop,K R r->mF T t o m key O K:=by
 unfold mF at h⊢;generalize t.tk=tk at h⊢;cases tk with
 |map kt et =>
  dsimp only at h⊢;generalize gq T kt=g1 at h⊢;generalize gq T et=g2 at h⊢;cases g1 with
  |none=>exact h.elim
  |some tk =>
   cases g2 with
   |none=>exact h.elim
   |some te =>
    dsimp only at h⊢;generalize te.zero=z at h⊢;split at h
    .cases m with
     |mref id=>
      dsimp only at h⊢;generalize o id=g at h⊢;rcases g with _|ob
      .exact h.elim
      .cases ob with
       |map kvs=>
        dsimp only at h⊢;obtain⟨⟨r,H,a⟩,b⟩:=bX h;exact⟨_,_,a,λ_ q=>b _ ⟨r,H,q⟩⟩
       |_=>exact h.elim
     |_=>exact h.elim
    .exact h.elim
 |_=>exact h.elim
theorem oT{T:kb}{t:TI}{o:Xd}{m key v:AV}{k:Nat->LObj->Prop}(h:k9 T t o m key v k):∃id ob,k id ob/\∀K:Nat->LObj->Prop,K id ob->k9 T t o m key v K:=by
 unfold k9 at h⊢;generalize t.tk=tk at h⊢;cases tk with
 |map kt et=>
  dsimp only at h⊢;generalize gq T kt=g1 at h⊢;cases g1 with
  |none=>exact h.elim
  |some tk=>
   dsimp only at h⊢;cases m with
   |mref id=>
    dsimp only at h⊢;generalize o id=g at h⊢;rcases g with _|ob
    .exact h.elim
    .cases ob with
     |map kvs=>
      dsimp only at h⊢;obtain⟨⟨r,H,a⟩,b⟩:=bX h;exact⟨_,_,a,λ_ q=>b _ ⟨r,H,q⟩⟩
     |_=>exact h.elim
   |_=>exact h.elim
 |_=>exact h.elim
theorem AW{x i:AV}{k:AV->Prop}(h:rE x i k):∃r,k r/\∀K:AV->Prop,K r->rE x i K:=by
 unfold rE at h⊢;split at h
 .exact⟨_,h.2,λ_ q=>⟨h.1,q⟩⟩
 .exact h.elim
theorem AX{T:kb}{t:TI}{o:Xd}{x:AV}{k:Nat->LObj->Prop}(h:rG T t o x k):∃id ob,k id ob/\∀K:Nat->LObj->Prop,K id ob->rG T t o x K:=by
 unfold rG at h⊢;split at h
 .rename_i e _;generalize gq T e=ge at h⊢;rcases ge with _|c
  .exact h.elim
  .cases x with
   |osub id off n sz=>
    dsimp only at h⊢;generalize o id=g at h⊢;rcases g with _|ob
    .exact h.elim
    .cases ob with
     |arr m sz' get e'=>
      dsimp only at h⊢;obtain⟨⟨H,a⟩,b⟩:=bX h;exact⟨_,_,a,λ_ q=>b _ ⟨H,q⟩⟩
     |_=>exact h.elim
   |_=>exact h.elim
 .exact h.elim
theorem AY{T:kb}{e n:Nat}{x i:AV}{k:AV->Prop}(h:rF T e n x i k):∃r,k r/\∀K:AV->Prop,K r->rF T e n x i K:=by
 unfold rF at h⊢;split at h
 .split at h
  .split at h
   .exact⟨_,h.2,λ_ q=>⟨h.1,q⟩⟩
   .exact h.elim
  .split at h
   .exact⟨_,h.2,λ_ q=>⟨h.1,q⟩⟩
   .exact h.elim
 .exact h.elim
theorem FB{P:Program}{t:Nat}{a:TI}{f:Nat}{x:AV}{k:AV->Prop}(h:Ku P t a f x k):∃r,k r/\∀K:AV->Prop,K r->Ku P t a f x K:=by
 unfold Ku at h⊢;generalize a.tk=tk at h⊢;generalize a.flds[f]? =g at h⊢;split at h
 .split at h
  .split at h
   .exact h.elim
   .split at h
    .exact⟨_,h.2,λ_ q=>⟨h.1,q⟩⟩
    .exact h.elim
  .exact h.elim
 .exact h.elim
theorem oU{P:Program}{f:FuncId}{v:List AV}{o:Xd}{k:List Nat->AV->Xb->Prop}(h:vCall P f v o k) :
  ∃R r w,k R r w/\∀K:List Nat->AV->Xb->Prop,K R r w->vCall P f v o K:=by
 obtain⟨r,i,outs,H,a,b,c⟩:=h;exact⟨_,_,_,c,λ_ q=>⟨r,i,outs,H,a,b,q⟩⟩
theorem AZ{P:Program}{y:Nat}{v:List AV}{o:Xd}{k:List Nat->AV->Xb->Prop}(h:vYield P y v o k) :
  ∃R r w,k R r w/\∀K:List Nat->AV->Xb->Prop,K R r w->vYield P y v o K:=by
 obtain⟨r,i,outs,H,a,b,c⟩:=h;exact⟨_,_,_,c,λ_ q=>⟨r,i,outs,H,a,b,q⟩⟩
theorem FC{P:Program}{t:TypeId}{n:String}{v:List AV}{o:Xd}{k:List Nat->AV->Xb->Prop}(h:VInv P t n v o k) :
  ∃R r w,k R r w/\∀K:List Nat->AV->Xb->Prop,K R r w->VInv P t n v o K:=by
 obtain⟨f,H,a⟩:=h;obtain⟨R,r,w,b,c⟩:=oU a;exact⟨_,_,_,b,λK q=>⟨f,H,c K q⟩⟩
section
variable {P:Program} {T:kb} {X:Frm} {ops:Array Oper}
theorem yY{i:Nat}{o:Oper}{A:St}{k:Eff->Prop}(h:Kd P T X ops i o A k):∃E,k E/\∀K:Eff->Prop,K E->Kd P T X ops i o A K:=by
 unfold Kd at h⊢;generalize o.op=op at h⊢;cases op with
 |move x=>
  dsimp only at h⊢;generalize cm A.s x=g at h⊢;cases g with
  |none=>exact h.elim
  |some v=>
   dsimp only at h⊢;generalize OT ops i=s at h⊢;cases s with
   |false=>exact⟨_,h,λ_ q=>q⟩
   |true=>
    dsimp only at h⊢;cases v with
    |bool b=>cases b<;>exact⟨_,h,λ_ q=>q⟩
    |_=>exact h.elim
 |assign x=>
  dsimp only at h⊢;generalize cm A.s x=g at h⊢;cases g with
  |none=>exact h.elim
  |some v=>exact⟨_,h,λ_ q=>q⟩
 |pick c x y=>
  dsimp only at h⊢;generalize cm A.s c=g at h⊢;rcases g with _|v
  .exact h.elim
  .cases v with
   |bool b=>
    dsimp only at h⊢;generalize cm A.s x=gx at h⊢;generalize cm A.s y=gy at h⊢;cases b with
    |true=>
     cases gx with
     |none=>exact h.elim
     |some v=>exact⟨_,h,λ_ q=>q⟩
    |false=>
     cases gy with
     |none=>exact h.elim
     |some v=>exact⟨_,h,λ_ q=>q⟩
   |_=>exact h.elim
 |binOp bo t x y C=>
  dsimp only at h⊢;generalize cm A.s x=gx at h⊢;generalize cm A.s y=gy at h⊢;generalize gq T t=gt at h⊢;split at h
  .obtain⟨r,H,a⟩:=Ct h;exact⟨_,H,λ_ q=>a _ q⟩
  .exact h.elim
 |unOp uo t x=>
  dsimp only at h⊢;generalize cm A.s x=gx at h⊢;cases gx with
  |none=>exact h.elim
  |some v=>
   obtain⟨r,H,a⟩:=Ii h;exact⟨_,H,λ_ q=>a _ q⟩
 |convert t C x=>
  dsimp only at h⊢;generalize cm A.s x=gx at h⊢;generalize gq T t=gt at h⊢;generalize gq T C=gt' at h⊢;split at h
  .obtain⟨r,H,a⟩:=Cu h;exact⟨_,H,λ_ q=>a _ q⟩
  .exact h.elim
 |load t p=>
  dsimp only at h⊢;generalize gq T t=gt at h⊢;cases gt with
  |none=>exact h.elim
  |some B=>
   obtain⟨R,r,H,a⟩:=Cv h;exact⟨_,H,λ_ q=>a _ q⟩
 |store t x y=>
  dsimp only at h⊢;generalize gq T t=gt at h⊢;generalize cm A.s x=gx at h⊢;generalize cm A.s y=gy at h⊢;split at h
  .obtain⟨id,ob,H,a⟩:=AQ h;exact⟨_,H,λ_ q=>a _ q⟩
  .exact h.elim
 |fieldAddr t p f=>
  dsimp only at h⊢;generalize gq T t=gt at h⊢;generalize cm A.s p=gx at h⊢;split at h
  .obtain⟨r,H,a⟩:=AR h;exact⟨_,H,λ_ q=>a _ q⟩
  .exact h.elim
 |nilCheck p=>
  dsimp only at h⊢;generalize cm A.s p=gx at h⊢;cases gx with
  |none=>exact h.elim
  |some v=>
   obtain⟨r,H,a⟩:=xu h;exact⟨_,H,λ_ q=>a _ q⟩
 |indexAddr t x ix=>
  dsimp only at h⊢;generalize gq T t=gt at h⊢;generalize cm A.s x=gx at h⊢;generalize cm A.s ix=gy at h⊢;split at h
  .obtain⟨r,H,a⟩:=AS h;exact⟨_,H,λ_ q=>a _ q⟩
  .exact h.elim
 |slice t x lo hi mx=>
  cases mx with
  |none=>
   dsimp only at h⊢;generalize gq T t=gt at h⊢;generalize cm A.s x=gx at h⊢;generalize lf A.s lo=gl at h⊢;generalize lf A.s hi=gh at h⊢;split at h
   .obtain⟨R,r,H,a⟩:=xv h;exact⟨_,H,λ_ q=>a _ q⟩
   .exact h.elim
  |some mx =>
   cases lo with
   |some lo=>exact h.elim
   |none=>
    cases hi with
    |none=>exact h.elim
    |some hi=>
     dsimp only at h⊢;generalize gq T t=gt at h⊢;generalize cm A.s x=gx at h⊢;generalize cm A.s hi=gl at h⊢;generalize cm A.s mx=gh at h⊢;split at h
     .rename_i B v V D;generalize htk:B.tk=tk at h;cases tk with
      |slice e=>
       dsimp only at h;obtain⟨H,a⟩:=bX h;obtain⟨r,m,w⟩:=xw H;exact⟨_,m,λ_ q=>a _ (w _ q)⟩
      |_=>exact h.elim
     .exact h.elim
 |extract x j=>
  dsimp only at h⊢;generalize cm A.s x=gx at h⊢;cases gx with
  |none=>exact h.elim
  |some v=>
   obtain⟨r,H,a⟩:=vz h;exact⟨_,H,λ_ q=>a _ q⟩
 |makeFunc fn fs caps=>
  cases fn with
  |func f=>
   dsimp only at h⊢;generalize fs.toList=l at h⊢;generalize dn A.s caps.toList=g at h⊢;split at h
   .exact⟨_,h,λ_ q=>q⟩
   .exact h.elim
  |_=>exact h.elim
 |alloc t=>
  dsimp only at h⊢;generalize gq T t=gt at h⊢;generalize o.dst=gd at h⊢;split at h
  .obtain⟨H,a⟩:=bX h;exact⟨_,H,λ_ q=>a _ q⟩
  .exact h.elim
 |box t x=>
  dsimp only at h⊢;generalize cm A.s x=gx at h⊢;generalize o.dst=gd at h⊢;split at h
  .obtain⟨H,a⟩:=bX h;obtain⟨cs,m,w⟩:=F9 H;exact⟨_,m,λ_ q=>a _ (w _ q)⟩
  .exact h.elim
 |build t parts=>
  dsimp only at h⊢;generalize gq T t=gt at h⊢;generalize fH A.s parts.toList=gp at h⊢;split at h
  .obtain⟨r,H,a⟩:=AU h;exact⟨_,H,λ_ q=>a _ q⟩
  .exact h.elim
 |buildSlice t len parts=>
  dsimp only at h⊢;generalize gq T t=gt at h⊢;generalize fH A.s parts.toList=gp at h⊢;generalize o.dst=gd at h⊢;split at h
  .obtain⟨H,a⟩:=bX h;obtain⟨cs,m,w⟩:=FA H;exact⟨_,m,λ_ q=>a _ (w _ q)⟩
  .exact h.elim
 |makeSlice t x y=>
  dsimp only at h⊢;generalize gq T t=gt at h⊢;generalize cm A.s x=gx at h⊢;generalize cm A.s y=gy at h⊢;generalize o.dst=gd at h⊢;split at h
  .obtain⟨H,a⟩:=bX h;obtain⟨n,ob,m,w⟩:=Cw H;exact⟨_,m,λ_ q=>a _ (w _ q)⟩
  .exact h.elim
 |call c=>
  obtain⟨callee,args,argTypes⟩:=c;cases callee with
  |builtin b=>
   cases b with
   |len =>
    dsimp only at h⊢;generalize args.toList=l1 at h⊢;generalize argTypes.toList=l2 at h⊢;split at h
    .rename_i x t;generalize gq T t=gt at h⊢;generalize cm A.s x=gx at h⊢;split at h
     .obtain⟨r,H,a⟩:=F8 h;exact⟨_,H,λ_ q=>a _ q⟩
     .exact h.elim
    .exact h.elim
   |max=>
    dsimp only at h⊢;generalize dn A.s args.toList=gx at h⊢;cases gx with
    |none=>exact h.elim
    |some vs=>
     obtain⟨r,H,a⟩:=yX h;exact⟨_,H,λ_ q=>a _ q⟩
   |min=>
    dsimp only at h⊢;generalize dn A.s args.toList=gx at h⊢;cases gx with
    |none=>exact h.elim
    |some vs=>
     obtain⟨r,H,a⟩:=yX h;exact⟨_,H,λ_ q=>a _ q⟩
   |append=>
    dsimp only at h⊢;generalize args.toList=l1 at h⊢;generalize argTypes.toList=l2 at h⊢;generalize o.dst=gd at h⊢;split at h
    .rename_i x y t C d;generalize gq T t=gt at h⊢;generalize cm A.s x=gx at h⊢;generalize cm A.s y=gy at h⊢;split at h
     .obtain⟨H,a⟩:=bX h;obtain⟨R,n,W,m,w⟩:=xz H;exact⟨_,m,λ_ q=>a _ (w _ q)⟩
     .exact h.elim
    .exact h.elim
   |clear=>
    dsimp only at h⊢;generalize args.toList=l1 at h⊢;generalize argTypes.toList=l2 at h⊢;split at h
    .rename_i x t;generalize gq T t=gt at h⊢;generalize cm A.s x=gx at h⊢;split at h
     .obtain⟨id,ob,H,a⟩:=AX h;exact⟨_,H,λ_ q=>a _ q⟩
     .exact h.elim
    .exact h.elim
   |_=>exact h.elim
  |value v=>
   cases v with
   |func f=>
    dsimp only at h⊢;generalize dn A.s args.toList=gx at h⊢;cases gx with
    |none=>exact h.elim
    |some vs=>
     obtain⟨R,r,W,H,a⟩:=oU h;exact⟨_,H,λ_ q=>a _ q⟩
   |tmp t=>
    dsimp only at h⊢;generalize A.s t=gt at h⊢;generalize dn A.s args.toList=gx at h⊢;split at h
    .obtain⟨R,r,W,H,a⟩:=oU h;exact⟨_,H,λ_ q=>a _ q⟩
    .obtain⟨R,r,W,H,a⟩:=AZ h;exact⟨_,H,λ_ q=>a _ q⟩
    .exact h.elim
   |_=>exact h.elim
  |invoke x name=>
   dsimp only at h⊢;generalize cm A.s x=gx at h⊢;generalize dn A.s args.toList=gv at h⊢;split at h
   .obtain⟨R,r,W,H,a⟩:=FC h;exact⟨_,H,λ_ q=>a _ q⟩
   .exact h.elim
 |makeMap t hint=>
  cases hint with
  |some _=>exact h.elim
  |none=>
   dsimp only at h⊢;generalize o.dst=gd at h⊢;cases gd with
   |none=>exact h.elim
   |some d=>
    obtain⟨H,a⟩:=bX h;exact⟨_,H,λ_ q=>a _ q⟩
 |lookup t x y ok=>
  dsimp only at h⊢;generalize gq T t=gt at h⊢;generalize cm A.s x=gx at h⊢;generalize cm A.s y=gy at h⊢;split at h
  .obtain⟨R,r,H,a⟩:=x4 h;exact⟨_,H,λ_ q=>a _ q⟩
  .exact h.elim
 |mapUpdate t x y z=>
  dsimp only at h⊢;generalize gq T t=gt at h⊢;generalize cm A.s x=gx at h⊢;generalize cm A.s y=gy at h⊢;generalize cm A.s z=gz at h⊢;split at h
  .obtain⟨id,ob,H,a⟩:=oT h;exact⟨_,H,λ_ q=>a _ q⟩
  .exact h.elim
 |insert t x y z=>
  dsimp only at h⊢;generalize gq T t=gt at h⊢;generalize cm A.s x=gx at h⊢;generalize cm A.s y=gy at h⊢;generalize cm A.s z=gz at h⊢;split at h
  .obtain⟨id,ob,H,a⟩:=oT h;exact⟨_,H,λ_ q=>a _ q⟩
  .exact h.elim
 |index t x y=>
  dsimp only at h⊢;generalize gq T t=gt at h⊢;generalize cm A.s x=gx at h⊢;generalize cm A.s y=gy at h⊢;split at h
  .rename_i B u v;generalize htk:B.tk=tk at h;cases tk with
   |str=>
    dsimp only at h;obtain⟨r,H,a⟩:=AW h;exact⟨_,H,λ_ q=>a _ q⟩
   |arr n e=>
    dsimp only at h;obtain⟨r,H,a⟩:=AY h;exact⟨_,H,λ_ q=>a _ q⟩
   |_=>exact h.elim
  .exact h.elim
 |makeInterface t x=>
  dsimp only at h⊢;generalize gq T t=gt at h⊢;generalize cm A.s x=gx at h⊢;split at h
  .obtain⟨H,a⟩:=bX h;exact⟨_,H,λ_ q=>a _ q⟩
  .exact h.elim
 |field t x f=>
  dsimp only at h⊢;generalize gq T t=gt at h⊢;generalize cm A.s x=gx at h⊢;split at h
  .obtain⟨r,H,a⟩:=FB h;exact⟨_,H,λ_ q=>a _ q⟩
  .exact h.elim
 |_=>exact h.elim
theorem yZ{i:Nat}{o:Oper}{A:St}{k:Eff->Prop}(h:JY P T X ops i o A k):∃E,k E/\∀K:Eff->Prop,K E->JY P T X ops i o A K:=by
 unfold JY at h⊢;generalize Pj X.nt o=b at h⊢;cases b with
 |false=>exact h.elim
 |true=>
  dsimp only at h⊢;generalize o.guard=g at h⊢;rcases g with _|⟨j,w⟩
  .exact yY h
  .dsimp only at h⊢;generalize ops[j]? =p at h⊢;rcases p with _|p
   .exact h.elim
   .dsimp only at h⊢;generalize p.dst=d at h⊢;rcases d with _|t
    .exact h.elim
    .dsimp only at h⊢;generalize hs:A.s t=s at h;split at h
     .rename_i b;generalize hw:(b==w)=c at h;cases c with
      |true=>
       obtain⟨E,H,a⟩:=yY h;exact⟨E,H,λK q=>a K q⟩
      |false=>
       exact⟨_,h,λK q=>q⟩
     .exact⟨_,h,λK q=>q⟩
     .exact h.elim
theorem za{w objs:Xb}{k:Xb->Prop}(h:J8 w objs k):∃r,k r/\∀K:Xb->Prop,K r->J8 w objs K:=by
 unfold J8 at h⊢;split at h<;>exact⟨_,h,λ_ q=>q⟩
theorem zb{e:List (Nat×AV)}{objs:Xb}{E:Eff}{k:St->Prop}(h:Kc e objs E k):∃B,k B/\∀K:St->Prop,K B->Kc e objs E K:=by
 obtain⟨b,R,w,W⟩:=E;unfold Kc at h⊢;rcases w with _|⟨d,v⟩
 .obtain⟨r,H,a⟩:=za h;exact⟨_,H,λ_ q=>a _ q⟩
 .obtain⟨r,H,a⟩:=za h;exact⟨_,H,λ_ q=>a _ q⟩
theorem zc:∀(l:List Oper) (i:Nat) (A:St) (K:St->Prop),t0 P T X ops l i A K->∃B,K B/\∀K':St->Prop,K' B->t0 P T X ops l i A K'
 |[],_,A,_,h=>⟨A,h,λ_ q=>q⟩
 |o::r,i,⟨env,objs⟩,K,h=>by
  simp only[t0]at h;obtain⟨E,H,a⟩:=yZ h;obtain⟨B,b,c⟩:=zb H;obtain⟨C,d,e⟩:=zc r (i+1) B K b;exact⟨C,d,λK' q=>by simp only[t0];exact a _ (c _ (e K' q))⟩
theorem v4:∀(l:List Oper) (i:Nat) (A:St) (a:List (Nat×Eff)) (K:St->Prop),kA P T X ops l i A a K->∃B,K B/\∀K':St->Prop,K' B->kA P T X ops l i A a K'
 |[],_,A,_,_,h=>⟨A,h.2,λ_ q=>⟨h.1,q⟩⟩
 |o::r,i,⟨env,objs⟩,a,K,h=>by
  simp only[kA]at h;obtain⟨E,H,b⟩:=yZ h;obtain⟨B,c,d⟩:=zb H;obtain⟨C,e,f⟩:=v4 r (i+1) B _ K c;exact⟨C,e,λK' q=>by simp only[kA];exact b _ (d _ (f K' q))⟩
end
section
variable {P:Program} {T:kb} {ops:Array Oper}
def Kr(p:List Nat)(nt:Nat):Frm:=⟨⟨default,none⟩,λ_=>False,p,λ_=>(none,0),nt⟩
theorem HF(p:List Nat)(nt:Nat)(w:World0)(I:Nat->Prop)(a:Loc)(i:Nat)(o:Oper)(A:St)(k:Eff->Prop):JY P T (Kr p nt) ops i o A k=JY P T ⟨w,I,p,a,nt⟩ ops i o A k:=rfl
theorem HG(p:List Nat)(nt:Nat)(w:World0)(I:Nat->Prop)(a:Loc):∀(l:List Oper) (i:Nat) (A:St) (K:St->Prop),t0 P T (Kr p nt) ops l i A K=t0 P T ⟨w,I,p,a,nt⟩ ops l i A K
 |[],_,_,_=>rfl
 |o::r,i,⟨env,objs⟩,K=>by
  simp only[t0];rw[HF p nt w I a];have e:∀B,t0 P T (Kr p nt) ops r (i+1) B K=t0 P T ⟨w,I,p,a,nt⟩ ops r (i+1) B K:=λB=>HG p nt w I a r (i+1) B K;simp only[e]
theorem Cx(p:List Nat)(nt:Nat)(w:World0)(I:Nat->Prop)(b:Loc):∀(l:List Oper) (i:Nat) (A:St) (a:List (Nat×Eff)) (K:St->Prop),kA P T (Kr p nt) ops l i A a K=kA P T ⟨w,I,p,b,nt⟩ ops l i A a K
 |[],_,_,_,_=>rfl
 |o::r,i,⟨env,objs⟩,a,K=>by
  simp only[kA];rw[HF p nt w I b];have e:∀B a,kA P T (Kr p nt) ops r (i+1) B a K=kA P T ⟨w,I,p,b,nt⟩ ops r (i+1) B a K:=λB a=>Cx p nt w I b r (i+1) B a K;simp only[e]
end
section
variable {P:Program}
structure GoodE(P:Program)(pid:List Nat)(nt:Nat)(c:Code)(A:St)(K:Exit->St->Prop):Prop where
 ex:∃e B,K e B/\∀w0 Im0 ρ0,GoodS P ⟨w0,Im0,pid,ρ0,nt⟩ c A (λe' B'=>e'=e/\B'=B)
structure LoopE(P:Program)(pid:List Nat)(nt:Nat)(c:Code)(A:St)(K:Exit->St->Prop):Prop where
 good:GoodE P pid nt c A K
def Pq(P:Program)(p:List Nat)(nt:Nat)(b:Code)(K:Exit->St->Prop):Exit->St->Prop
 |.normal,B=>GoodE P p nt b B K
 |e,B=>K e B
def MN(K:Exit->St->Prop):Exit->St->Prop
 |.goto _,_=>False
 |e,B=>K e B
def NE(P:Program)(T:kb)(p:List Nat)(nt:Nat):Code->St->(Exit->St->Prop)->Prop
 |.skip,A,K=>K .normal A
 |.region _ ops false,A,K=>t0 P T (Kr p nt) ops ops.toList 0 A (K .normal)
 |.region _ ops true,A,K=>kA P T (Kr p nt) ops ops.toList 0 A [] (K .normal)
 |.seq a b,A,K=>NE P T p nt a A (Pq P p nt b K)
 |.cond c x y,A,K=>match cm A.s c with
  |some (.bool b)=>pD b (GoodE P p nt x A K) (GoodE P p nt y A K)
  |_=>False
 |.block id c,A,K=>NE P T p nt c A (yT id K)
 |.exit id,A,K=>K (.exit id) A
 |.ret,A,K=>K .ret A
 |.label _,A,K=>K .normal A
 |.scope c,A,K=>NE P T p nt c A (MN K)
 |c,A,K=>LoopE P p nt c A K
theorem FD{T:kb}(s:P.follows .mixedOrders=true)(r:fK P T){p:List Nat}{nt:Nat}{c:Code}{A:St}{K:Exit->St->Prop}(h:NE P T p nt c A K):GoodE P p nt c A K:=by
 induction c generalizing A K with
 |skip=>exact⟨_,_,h,λW I d=>⟨λa w f=>wpIn_skip ⟨A,⟨rfl,rfl⟩,f⟩⟩⟩
 |region id ops draw=>
  cases draw with
  |false=>
   obtain⟨B,j,k⟩:=zc _ _ _ _ h;refine⟨.normal,B,j,λW I d=>xo s r (T:=T) ?_⟩;show t0 P T ⟨W,I,p,d,nt⟩ ops ops.toList 0 A _;rw[<-HG];exact k _ ⟨rfl,rfl⟩
  |true=>
   obtain⟨B,j,k⟩:=v4 _ _ _ _ _ h;refine⟨.normal,B,j,λW I d=>xo s r (T:=T) ?_⟩;show kA P T ⟨W,I,p,d,nt⟩ ops ops.toList 0 A [] _;rw[<-Cx];exact k _ ⟨rfl,rfl⟩
 |seq x y ihx _=>
  obtain⟨e,B,j,k⟩:=ihx h;cases e with
  |normal=>
   obtain⟨u,t,z,C⟩:=j;refine⟨u,t,z,λW I d=>⟨λa w f=>wpIn_seq (Go.wpIn_mono ((k W I d).run a w f) λE m n=>?_)⟩⟩;rintro⟨o,⟨rfl,rfl⟩,H⟩;exact(C W I d).run m n H
  |_=>
   refine⟨_,B,j,λW I d=>⟨λa w f=>wpIn_seq (Go.wpIn_mono ((k W I d).run a w f) λE m n=>?_)⟩⟩;rintro⟨o,⟨rfl,rfl⟩,H⟩;exact⟨_,⟨rfl,rfl⟩,H⟩
 |cond c x y _ _=>
  simp only[NE]at h;generalize hc:cm A.s c=g at h;rcases g with _|v
  .exact h.elim
  .cases v with
   |bool b=>
    have key:∀W I d a w,Rel ⟨W,I,p,d,nt⟩ A.s A.o a w->a.eval c=.bool b:=by
     rintro W I d a w ⟨ρ,Im,H⟩;exact(H.opd hc).bool_inv
    cases b with
    |true=>
     obtain⟨e,B,j,k⟩:=h;exact⟨e,B,j,λW I d=>⟨λa w f=>wpIn_cond_split (key _ _ _ _ _ f) (λ_=>(k W I d).run a w f) (λq=>by cases q)⟩⟩
    |false=>
     obtain⟨e,B,j,k⟩:=h;exact⟨e,B,j,λW I d=>⟨λa w f=>wpIn_cond_split (key _ _ _ _ _ f) (λq=>by cases q) (λ_=>(k W I d).run a w f)⟩⟩
   |_=>exact h.elim
 |block id c ih=>
  obtain⟨e,B,j,k⟩:=ih h;cases e with
  |exit i=>
   simp only[yT]at j;split at j
   .rename_i hb;refine⟨.normal,B,j,λW I d=>⟨λa w f=>wpIn_block (Go.wpIn_mono ((k W I d).run a w f) λE m n=>?_)⟩⟩;rintro⟨o,⟨rfl,rfl⟩,H⟩;simp only[Exit.inBlock];rw[if_pos (Nat.eq_of_beq_eq_true hb)];exact⟨_,⟨by trivial,rfl⟩,H⟩
   .rename_i hb;refine⟨.exit i,B,j,λW I d=>⟨λa w f=>wpIn_block (Go.wpIn_mono ((k W I d).run a w f) λE m n=>?_)⟩⟩;rintro⟨o,⟨rfl,rfl⟩,H⟩;simp only[Exit.inBlock];rw[if_neg (λe=>by rw[e,Nat.beq_refl]at hb;cases hb)];exact⟨_,⟨by trivial,rfl⟩,H⟩
  |_=>
   refine⟨_,B,j,λW I d=>⟨λa w f=>wpIn_block (Go.wpIn_mono ((k W I d).run a w f) λE m n=>?_)⟩⟩;rintro⟨o,⟨rfl,rfl⟩,H⟩;exact⟨_,⟨rfl,rfl⟩,H⟩
 |exit id=>exact⟨_,_,h,λW I d=>⟨λa w f=>wpIn_exit ⟨A,⟨rfl,rfl⟩,f⟩⟩⟩
 |ret=>exact⟨_,_,h,λW I d=>⟨λa w f=>wpIn_ret ⟨A,⟨rfl,rfl⟩,f⟩⟩⟩
 |label l=>exact⟨_,_,h,λW I d=>⟨λa w f=>wpIn_label ⟨A,⟨rfl,rfl⟩,f⟩⟩⟩
 |scope c ih=>
  obtain⟨e,B,j,k⟩:=ih h;cases e with
  |goto l=>exact j.elim
  |_=>
   refine⟨_,B,j,λW I d=>⟨λa w f=>AN (Go.wpIn_mono ((k W I d).run a w f) λE m n=>?_)⟩⟩;rintro⟨o,⟨rfl,rfl⟩,H⟩;exact⟨_,⟨rfl,rfl⟩,H⟩
 |_=>exact h.good
def c9(p:List Nat)(nt:Nat)(A B:St):Prop:=∀w I a,Ghost ⟨w,I,p,a,nt⟩ A B
theorem c9.rfl{p:List Nat}{nt:Nat}{A:St}:c9 p nt A A:=λ_ _ _=>Ghost.rfl
theorem c9.trans{p:List Nat}{nt:Nat}{A B C:St}(h:c9 p nt A B)(k:c9 p nt B C):c9 p nt A C:=λw I a=>(h w I a).trans (k w I a)
theorem dY{p:List Nat}{nt:Nat}(r:List (Nat×Nat)){A B:St}(h:KN (Kr p nt) r A B):c9 p nt A B:=λ_ _ _=>fW r h
theorem mN{p:List Nat}{nt:Nat}{A:St}(id:Nat){ob:LObj}(H:eU A.objs id=some ob)(c:p.elem id=false)(h:H4 ob)(b:rh id ob A.env)(a:jf id ob A.objs):c9 p nt A (A.frz id ob):=λ_ _ _=>ll id H c h b a
theorem aV{p:List Nat}{nt:Nat}{c:Code}{A B:St}{K:Exit->St->Prop}(d:c9 p nt A B)(h:GoodE P p nt c B K):GoodE P p nt c A K:=by
 obtain⟨e,C,H,b⟩:=h;exact⟨e,C,H,λw I a=>im (d w I a) (b w I a)⟩
def HH(p:List Nat)(nt:Nat){ι:Type}(F:ι->St)(a:ι->Nat)(i:ι)(K:Exit->St->Prop):Exit->St->Prop
 |.normal,B=>∃j,c9 p nt B (F j)/\a j<a i
 |e,B=>K e B
theorem mO{p:List Nat}{nt:Nat}{c:Code}{A:St}{K:Exit->St->Prop}{ι:Type}(F:ι->St)(G:ι->Nat)(L:ι)(Q:c9 p nt A (F L))(h:∀i,GoodE P p nt c (F i) (HH p nt F G i K)):LoopE P p nt (.loop c) A K:=by
 have key:∀(n:Nat) (i:ι),G i=n->∃e B,K e B/\∀(o:World0) I d a w,Rel ⟨o,I,p,d,nt⟩ (F i).s (F i).o a w->∀(b:Frame) k (cs:List Frame),b.roundOf=(rf o.ro).round->(rf o.ro).fn b.fn->(rf o.ro).room (cs.length+1+0)->
   ∃u y,Rel ⟨o,I,p,d,nt⟩ B.s B.o u y/\ArrivesIn (Machine.fenced P (rf o.ro)) P (lone (b.atR a (.code c::.inLoop c::k)) cs w) b k cs e u y:=by
  intro n;induction n using Nat.strongRecOn with
  |_ n ih=>
   intro i hn;obtain⟨e,B,t,D⟩:=h i;have R:∀(o:World0) I d a w,Rel ⟨o,I,p,d,nt⟩ (F i).s (F i).o a w->∀(b:Frame) k (cs:List Frame),b.roundOf=(rf o.ro).round->(rf o.ro).fn b.fn->(rf o.ro).room (cs.length+1+0)->∃u y,Rel ⟨o,I,p,d,nt⟩ B.s B.o u y/\ArrivesIn (Machine.fenced P (rf o.ro)) P (lone (b.atR a (.code c::.inLoop c::k)) cs w) b (.inLoop c::k) cs e u y:=by
    intro o I d a w r b k cs m hb g;obtain⟨e',f,W,⟨B',⟨rfl,rfl⟩,q⟩,H⟩:=(D o I d).run a w r b (.inLoop c::k) cs m hb g;exact⟨f,W,q,H⟩
   cases e with
   |normal=>
    obtain⟨j,X,E⟩:=t;obtain⟨O,N,S,V⟩:=ih (G j) (hn▸E) j _root_.rfl;refine⟨O,N,S,λo I d a w r b k cs m hb g=>?_⟩;obtain⟨f,W,q,H⟩:=R o I d a w r b k cs m hb g;obtain⟨z,C,v,s⟩:=V o I d f W ((X o I d).run _ _ q) b k cs m hb g;exact⟨z,C,v,.of_steps (StepsIn.trans H (.one (fenced_calm hb g _root_.rfl) stepR_inLoop)) s⟩
   |exit id=>
    refine⟨_,B,t,λo I d a w r b k cs m hb g=>?_⟩;obtain⟨f,W,q,H⟩:=R o I d a w r b k cs m hb g;exact⟨f,W,q,.pass (x:=.inLoop c) rfl (λ_ _=>.inl ν) H⟩
   |goto l=>
    refine⟨_,B,t,λo I d a w r b k cs m hb g=>?_⟩;obtain⟨f,W,q,H⟩:=R o I d a w r b k cs m hb g;exact⟨f,W,q,.pass (x:=.inLoop c) rfl (λ_ _=>.inl ν) H⟩
   |ret=>
    refine⟨_,B,t,λo I d a w r b k cs m hb g=>?_⟩;obtain⟨f,W,q,H⟩:=R o I d a w r b k cs m hb g;exact⟨f,W,q,.pass (x:=.inLoop c) rfl (λ_ _=>.inl ν) H⟩
   |panic ch=>
    refine⟨_,B,t,λo I d a w r b k cs m hb g=>?_⟩;obtain⟨f,W,q,H⟩:=R o I d a w r b k cs m hb g;exact⟨f,W,q,.pass (x:=.inLoop c) rfl (λ_ _=>.inl ν) H⟩
   |outgrown=>
    refine⟨_,B,t,λo I d a w r b k cs m hb g=>?_⟩;obtain⟨f,W,q,H⟩:=R o I d a w r b k cs m hb g;exact⟨f,W,q,.pass (x:=.inLoop c) rfl (λ_ _=>.inl ν) H⟩
 obtain⟨e,B,t,D⟩:=key _ L _root_.rfl;refine⟨⟨e,B,t,λo I d=>⟨λa w hr b k cs m hb g=>?_⟩⟩⟩;obtain⟨u,y,q,H⟩:=D o I d a w ((Q o I d).run a w hr) b k cs m hb g;exact⟨e,u,y,⟨B,⟨rfl,rfl⟩,q⟩,.of_steps (.one (fenced_calm hb g _root_.rfl) stepR_loop) H⟩
end
section
variable {P:Program} {T:kb}
theorem jg{A:St}:∀(l:List ResultVar) {k:List AV->Prop},fX T A l k->∃V,k V/\∀K:List AV->Prop,K V->fX T A l K
 |[],_,h=>⟨[],h,λ_ q=>q⟩
 |.tmp t::r,k,h=>by
  simp only[fX]at h⊢;generalize mz A.env t=g at h⊢;cases g with
  |none=>exact h.elim
  |some v=>
   obtain⟨V,H,a⟩:=jg r h;exact⟨_,H,λK q=>a _ q⟩
 |.cell t ty::r,k,h=>by
  simp only[fX]at h⊢;generalize mz A.env t=g at h⊢;generalize gq T ty=gt at h⊢;split at h
  .obtain⟨cs,o,R,H,a⟩:=nE h;obtain⟨v,b,c⟩:=rN H;obtain⟨V,d,e⟩:=jg r b;exact⟨_,d,λK q=>a _ (c _ (e _ q))⟩
  .exact h.elim
structure FinX(T:kb)(pid:List Nat)(nt:Nat)(rs:List ResultVar){α:Type}(g:α->AV)(outs:α->Xc)(Q:α->Prop)(B:St):Prop where
 ex:∃x,Q x/\∀w0 Im0 ρ0,KL T ⟨w0,Im0,pid,ρ0,nt⟩ rs (g x) (outs x) B
def Pc(T:kb)(p:List Nat)(nt:Nat)(r:List ResultVar){α:Type}(g:α->AV)(outs:α->Xc)(Q:α->Prop):Exit->St->Prop
 |.normal,B=>FinX T p nt r g outs Q B
 |.ret,B=>FinX T p nt r g outs Q B
 |_,_=>False
theorem ar{T : kb}(s : fK P T){f : FuncId}{F : Func}(c : Code)(nt : Nat)(r : List ResultVar)(t : P.funcs[f]? =some F)(hb : F.body=some c)(H : (F.name== "runtime.NumGoroutine")=false)(k : F.ntmps=nt)(l : F.results.toList=r)
  {args:List AV} {i:Xc} {α:Type} {g:α->AV} {outs:α->Xc} {Q:α->Prop} (b:args.length<=nt)
  (hcl:(i.all λp=>p.2.live)=true/\ka (i.map (·.1)) args=true/\(∀p∈i,eu (i.map (·.1)) p.2))
  (hco:∀x,gu ((outs x).map (·.1)) (g x)=true/\(∀p∈outs x,eu ((outs x).map (·.1)) p.2)/\(i.all λp=>((outs x).map (·.1)).elem p.1)=true)
  (h:GoodE P (i.map (·.1)) nt c ⟨kZ 0 args,bg i⟩ (Pc T (i.map (·.1)) nt r g outs Q)):∃x,Q x/\CallSpec P f args i (g x) (outs x):=by
 obtain⟨e,B,d,q⟩:=h;have key:∀x,Q x->(∀w I a,NJ T ⟨w,I,i.map (·.1),a,nt⟩ r (g x) (outs x) e B)->∃x,Q x/\CallSpec P f args i (g x) (outs x):=λx hq j=>by
  obtain⟨C,n,o⟩:=hco x;refine⟨x,hq,aS s c nt r t hb H k l b ⟨hcl.1,hcl.2.1,C,hcl.2.2,n,o⟩ λw I a=>(q w I a).mono ?_⟩;rintro E u ⟨rfl,rfl⟩;exact j w I a
 cases e with
 |normal=>obtain⟨x,hq,m⟩:=d;exact key x hq m
 |ret=>obtain⟨x,hq,m⟩:=d;exact key x hq m
 |_=>exact d.elim
theorem ag{p:List Nat}{nt:Nat}{r:List ResultVar}{α:Type}{g:α->AV}{Q:α->Prop}{B:St}(h:fX T B r λv=>∃x,gJ v=g x/\Q x):FinX T p nt r g (λ_=>[]) Q B:=by
 obtain⟨v,⟨x,H,a⟩,b⟩:=jg r h;exact⟨x,a,λw I c=>⟨B,Ghost.rfl,b _ (by rw[H];exact Θ),trivial⟩⟩
theorem aK{p:List Nat}{nt:Nat}{r:List ResultVar}{α:Type}{g:α->AV}{outs:α->Xc}{Q:α->Prop}{B:St}(h:fX T B r λv=>∃x,gJ v=g x/\dT B.o (outs x)/\Q x):FinX T p nt r g outs Q B:=by
 obtain⟨v,⟨x,H,c,a⟩,b⟩:=jg r h;exact⟨x,a,λw I d=>⟨B,Ghost.rfl,b _ (by rw[H];exact Θ),c⟩⟩
theorem aW{p:List Nat}{nt:Nat}{R:List ResultVar}{α:Type}{g:α->AV}{outs:α->Xc}{Q:α->Prop}{B:St}(ks os:List Nat)(r:List (Nat×Nat))(e:List (Nat×AV))(o:Xb)(h:KN (Kr p nt) r B (B.kp ks os e o))
  (k:M8 B ks os e o (FinX T p nt R g outs Q)):FinX T p nt R g outs Q B:=by
 obtain⟨x,hq,c⟩:=iD k;refine⟨x,hq,λw I a=>?_⟩;obtain⟨C,H,b⟩:=c w I a;exact⟨C,(dY r h w I a).trans H,b⟩
theorem aX{p:List Nat}{nt:Nat}{r:List ResultVar}{α:Type}{g:α->AV}{outs:α->Xc}{Q:α->Prop}{B:St}(id:Nat){ob:LObj}(H:eU B.objs id=some ob)(f:p.elem id=false)(h:H4 ob)(e:rh id ob B.env)(b:jf id ob B.objs)
  (k:FinX T p nt r g outs Q (B.frz id ob)):FinX T p nt r g outs Q B:=by
 obtain⟨x,hq,i⟩:=k;refine⟨x,hq,λw I a=>?_⟩;obtain⟨C,c,d⟩:=i w I a;exact⟨C,(mN id H f h e b w I a).trans c,d⟩
theorem bO{p:List Nat}{nt:Nat}{r:List ResultVar}{α:Type}{g:α->AV}{Q:α->Prop}{B:St}(h:fX T B r λv=>∃x,AvLe (gJ v) (g x)/\Q x):FinX T p nt r g (λ_=>[]) Q B:=by
 obtain⟨v,⟨x,H,a⟩,b⟩:=jg r h;exact⟨x,a,λw I c=>⟨B,Ghost.rfl,b _ H,trivial⟩⟩
theorem ae{p:List Nat}{nt:Nat}{c:Code}{A:St}{K:Exit->St->Prop}{ι:Type}(ks os:List Nat)(r:List (Nat×Nat))(I:ι)(a:ι->Nat)(e:ι->List (Nat×AV))(o:ι->Xb)
  (H:KN (Kr p nt) r A (A.kp ks os (e I) (o I))) (h:∀i,M8 A ks os (e i) (o i) λB=>GoodE P p nt c B (HH p nt (λi=>A.kp ks os (e i) (o i)) a i K)):LoopE P p nt (.loop c) A K :=
 mO (λi=>A.kp ks os (e i) (o i)) a I (dY r H) λi=>iD (h i)
theorem aQ{p:List Nat}{nt:Nat}{ι:Type}{F:ι->St}{a:ι->Nat}{m:Nat}{B:St}(r:List (Nat×Nat))(j:ι)(H:KN (Kr p nt) r B (F j))(h:a j<m):∃j,c9 p nt B (F j)/\a j<m:=⟨j,dY r H,h⟩
theorem az{p:List Nat}{nt:Nat}{c:Code}{A:St}{K:Exit->St->Prop}(ks os:List Nat)(r:List (Nat×Nat))(e:List (Nat×AV))(o:Xb)(h:KN (Kr p nt) r A (A.kp ks os e o))(k:M8 A ks os e o λB=>GoodE P p nt c B K):GoodE P p nt c A K :=
 aV (dY r h) (iD k)
theorem a7{p:List Nat}{nt:Nat}{c:Code}{A:St}{K:Exit->St->Prop}(id:Nat){ob:LObj}(a:eU A.objs id=some ob)(e:p.elem id=false)(H:H4 ob)(d:rh id ob A.env)(b:jf id ob A.objs)(h:GoodE P p nt c (A.frz id ob) K):GoodE P p nt c A K :=
 aV (mN id a e H d b) h
end
open Go.Proofs in
theorem fg{p:List Nat}{nt:Nat}{c:Code}{A:St}{K:Exit->St->Prop}(h:NE prog T p nt c A K):GoodE prog p nt c A K:=FD LW aE h
open Go.Proofs
theorem b7{p:Prop}(h:p:=by
 first
 |((first|(refine fg ?_;conv=>whnf)|(refine aa (λhb=>?_) (λhb=>?_)<;>conv=>whnf)|(refine aq (λhb=>?_) (λhb=>?_)<;>conv=>whnf)|(refine ag ?_;conv=>whnf)|(refine Side.mk ?_ ?_;rotate_left;conv=>whnf)|(refine SubS.mk ?_ ?_;rotate_left;conv=>whnf)|(refine VCells.mk ⟨_,rfl,?_⟩;conv=>whnf)|(refine DrawOk.mk ⟨rfl,rfl⟩ ?_;conv=>whnf)|(refine aA (λhb=>?_) (λhb=>?_)<;>conv=>whnf)|fail);all_goals(rcases rM _ rfl with hq;exact hq))
 |fail):p:=h
theorem FE{p:Prop}(h:p:=by
 first
 |((first|(refine fg ?_;conv=>whnf)|(refine aa (λhb=>?_) (λhb=>?_)<;>conv=>whnf)|(refine aq (λhb=>?_) (λhb=>?_)<;>conv=>whnf)|(refine aK ?_;conv=>whnf)|(refine Side.mk ?_ ?_;rotate_left;conv=>whnf)|(refine SubS.mk ?_ ?_;rotate_left;conv=>whnf)|(refine VCells.mk ⟨_,rfl,?_⟩;conv=>whnf)|(refine DrawOk.mk ⟨rfl,rfl⟩ ?_;conv=>whnf)|(refine aA (λhb=>?_) (λhb=>?_)<;>conv=>whnf)|fail);all_goals(rcases rM _ rfl with hq;exact hq))
 |fail):p:=h
theorem aj{p:Prop}(h:p:=by
 first
 |((first|(refine fg ?_;conv=>whnf)|(refine aa (λhb=>?_) (λhb=>?_)<;>conv=>whnf)|(refine aq (λhb=>?_) (λhb=>?_)<;>conv=>whnf)|(refine Side.mk ?_ ?_;rotate_left;conv=>whnf)|(refine SubS.mk ?_ ?_;rotate_left;conv=>whnf)|(refine VCells.mk ⟨_,rfl,?_⟩;conv=>whnf)|(refine DrawOk.mk ⟨rfl,rfl⟩ ?_;conv=>whnf)|(refine aA (λhb=>?_) (λhb=>?_)<;>conv=>whnf)|refine ab (by assumption) ?_|fail);all_goals(rcases rM _ rfl with hq;exact hq))
 |fail):p:=h
theorem dp{f:FuncId}{F:Func}{c:Code}{nt:Nat}{r:List ResultVar}{args:List AV}{i:Xc}{α:Type}{g:α->AV}{outs:α->Xc}{Q:α->Prop}(e:prog.funcs[f]? =some F)(b:F.ntmps=nt)(d:F.results=r.toArray)
  (h : GoodE prog (i.map (·.1)) nt c ⟨kZ 0 args, bg i⟩ (Pc T (i.map (·.1)) nt r g outs Q)) (hb : F.body=some c := by exact rfl) (H : (F.name== "runtime.NumGoroutine")=false := by kernel_rfl) (a : args.length≤nt := by simp)
  (hcl:(i.all λp=>p.2.live)=true/\ka (i.map (·.1)) args=true/\(∀p∈i,eu (i.map (·.1)) p.2):=by exact⟨rfl,rfl,by simp⟩)
  (hco:∀x,gu ((outs x).map (·.1)) (g x)=true/\(∀p∈outs x,eu ((outs x).map (·.1)) p.2)/\(i.all λp=>((outs x).map (·.1)).elem p.1)=true:=by first|exactλx=>⟨rfl,by simp,rfl⟩|exactλx=>⟨aB x _,by simp,rfl⟩):∃x,Q x/\bx f args i (g x) (outs x) :=
 ar aE c nt r e hb H b (by rw[d]) a hcl hco h
mutual
theorem dm:∀v:AV,px (J4 []) v=v
 |.fn g cs=>by unfold px;rw[ia cs]
 |.agg cs=>by unfold px;rw[ia cs]
 |.tup cs=>by unfold px;rw[ia cs]
 |.lptr .. |.osl .. |.osub .. |.optr .. |.mref .. |.yld ..=>rfl
 |.int .. |.bool .. |.str .. |.junk|.isl .. |.icap .. |.eptr .. |.ibox .. |.nils|.emp|.niface|.nfunc|.nptr|.nmap|.iface ..=>rfl
theorem ia:∀l:List AV,H1 (J4 []) l=l
 |[]=>rfl
 |c::cs=>by unfold H1;rw[dm c,ia cs]
end
theorem HI(ob:LObj):J2 (J4 []) ob=ob:=by
 cases ob with
 |box cs=>show LObj.box _=_;rw[ia]
 |arr n sz get T=>show LObj.arr n sz _ T=_;congr 1;funext i;exact ia _
 |map kvs=>show LObj.map _=_;congr 1;simp[dm]
 |lrec=>show LObj.lrec .. =_;rw[ia]
 |dead=>rfl
theorem jh(ob:LObj):ObLe ob (J2 (J4 []) ob):=by rw[HI];exact cy
structure WfC(c:Curve):Prop where
 len:1<=c.vals.length/\c.vals.length<=400
 per:1<=c.per/\c.per<=120/\c.per<=c.vals.length
 inc:0<=c.inc/\c.inc<=1073741824
 val:∀v∈c.vals,(0<=v/\v<=1073741824)\/v=cx
 last:c.vals.getD (c.vals.length-1) 0=cx->c.inc=0
def ax:Except Int Curve->AV
 |.ok c=>.tup [c.av,J 0]
 |.error e=>.tup [.agg [.nils,J 0,J 0],J e]
theorem aB(x:Except Int Curve)(ids:List Nat):gu ids (ax x)=true:=by
 cases x<;>rfl
theorem bA{P:Program}{f:FuncId}{v:List AV}{o:Xd}{k:List Nat->AV->Xb->Prop}{r:AV}{i:Xc}(h:CallSpec P f v i r i)(a:dT o i)(H:fI o i i)(b:k (i.map (·.1)++i.map (·.1)) r (bg i)):vCall P f v o k:=⟨r,i,i,h,a,H,b⟩
mutual
theorem bF(ids:List Nat):∀v:AV,gu [] v=true->gu ids v=true
 |.fn g cs,h=>by unfold gu at h⊢;exact mo ids cs h
 |.agg cs,h=>by unfold gu at h⊢;exact mo ids cs h
 |.tup cs,h=>by unfold gu at h⊢;exact mo ids cs h
 |.lptr ..,h=>by cases h
 |.osl ..,h=>by cases h
 |.osub ..,h=>by cases h
 |.optr ..,h=>by cases h
 |.mref ..,h=>by cases h
 |.yld ..,h=>by cases h
 |.int ..,_|.bool ..,_|.str ..,_|.junk,_|.isl ..,_|.icap ..,_|.eptr ..,_|.ibox ..,_|.nils,_|.emp,_|.niface,_|.nfunc,_|.nptr,_|.nmap,_|.iface ..,_=>rfl
theorem mo(ids:List Nat):∀l:List AV,ka [] l=true->ka ids l=true
 |[],_=>rfl
 |c::cs,h=>by
  unfold ka at h⊢;rw[Bool.and_eq_true]at h⊢;exact⟨bF ids c h.1,mo ids cs h.2⟩
end
theorem bk{ob:LObj}(h:eu [] ob)(ids:List Nat):eu ids ob:=by
 cases ob with
 |box cs=>exact mo ids _ h
 |arr n sz get T=>exactλi a=>mo ids _ (h i a)
 |map kvs=>exactλk v H=>⟨bF ids _ (h k v H).1,bF ids _ (h k v H).2⟩
 |lrec=>exact mo ids _ h
 |dead=>trivial
theorem bt{p:Prop}(h:p:=by first|((repeat'(first|exact True.intro|refine And.intro ?_ ?_))<;>first|rfl|exact Θ|exactλ_ _=>rfl|(refine Γ ?_;first|omega|(dsimp only;omega)|rfl)|exact bk ‹_› _|((conv=>whnf)<;>first|exact cy|exact Θ|exact jh _))|fail):p:=h
theorem subP{p:Prop}(h:p:=by
 first|(((repeat'(first|exact True.intro|refine And.intro ?_ ?_))<;>first|rfl|exact bk ‹_› _|conv=>whnf);all_goals(rcases yV _ rfl with hq;exact hq))|fail):p:=h
theorem aI{p:List Nat}{nt:Nat}{ι:Type}{F:ι->St}{a:ι->Nat}{m:Nat}{B:St}(r:List (Nat×Nat))(j:ι)(H:KN (Kr p nt) r B (F j):=by first|exact⟨⟨rfl,rfl⟩,bt,bt⟩|fail)(h:a j<m:=by first|omega|(dsimp only;omega)):∃j,c9 p nt B (F j)/\a j<m:=⟨j,dY r H,h⟩
theorem aO{p:List Nat}{nt:Nat}{ι:Type}{F:ι -> St}{a:ι -> Nat}{m:Nat}{B:St}(r:List (Nat × Nat))(j:ι)(H:KN (Kr p nt) r B (F j):=by
 first|(refine⟨⟨rfl,rfl⟩,?_,?_⟩<;>((((repeat'(first|exact True.intro|refine And.intro ?_ ?_))<;>first|rfl|exact bk ‹_› _|conv=>whnf));all_goals(rcases yV _ rfl with hq;exact hq)))|fail) (h:a j<m:=by first|omega|(dsimp only;omega)):∃j,c9 p nt B (F j)/\a j<m:=⟨j,dY r H,h⟩
end Go.Nc