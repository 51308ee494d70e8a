/-
 Proved here: the law BestImproves of chapter 31 returns true at every slice of integers and every slice of bytes, and writes nothing that was there before the call.
 Conditions: none beyond the row's own.
-/
import Derived.Test.YtbdkgpcdkalfdaaGreatRows
import Derived.WalkKit
import Derived.ProofKit
import Derived.OpenShut
import Derived.ShutString
import Derived.ChangeOld
import Derived.Below
import Derived.Test.YtbdkgpcdkalfdaaGreatNcFinImproves
import Derived.Test.YtbdkgpcdkalfdaaGreatNcImprovesFacts
namespace Go.Proofs.YtbdkgpcdkalfdaaGreat.bestImproves
open Go.ChangeShapes Go.WideShapes Go.ChangeAt Go.RowKit
open Go.ChangeMaps (open_string shut_string)
set_option linter.unusedVariables false
theorem own:ownKnob Tryz.prog.godebug=none:=by kernel_rfl
theorem laidOut:laidOutB Tryz.prog=true:=by kernel_rfl
def IsRow(k:IntKind)(w:World)(a:Option Addr)(len cap:Nat)(zs:List Int):Prop :=
 (a=none/\len=0/\cap=0/\zs=[])\/
 ∃x,a=some x/\len<=cap/\cap<=maxLen/\zs.length=cap/\(∀i,i<zs.length->w.cell? (x.add i)=some (.int k (zs.getD i 0)))/\∀n∈zs,(Lit.int k n).wf=true
theorem walk(a0:Option Addr)(len0 cap0:Nat)(z0:List Int)(a1:Option Addr)(len1 cap1:Nat)(z1:List Int)(w:World)(w0:IsRow .i64 w a0 len0 cap0 z0)(w1:IsRow .u8 w a1 len1 cap1 z1) :
  Calls Tryz.prog 7 #[.slice a0 len0 cap0,.slice a1 len1 cap1] w λe w'=>e=.returned (.bool true)/\Below w.heap.size w w':=by
 obtain⟨t,ht⟩:∃t:List Int,Go.Nc.ConI (λb=>b<w.heap.size) w.heap (Go.Nc.ints t) (.slice a0 len0 cap0):=by
  rcases w0 with⟨rfl,rfl,rfl,rfl⟩|⟨x,rfl,hle,hm,hz,hcell,_⟩
  ·exact⟨[],.isl0 ..⟩
  ·exact⟨z0.take len0,(Go.Nc.row_con hle (by unfold maxLen at hm;unfold Go.Nc.slMax;omega) hz hcell).mono (λ_ h=>h.2) (λ_ _=>rfl)⟩
 obtain⟨u,hu2,hu⟩:∃u:List Int,(∀i,i<u.length->0<=u.getD i 0/\u.getD i 0<=255)/\Go.Nc.ConI (λb=>b<w.heap.size) w.heap (Go.Nc.u8s u) (.slice a1 len1 cap1):=by
  rcases w1 with⟨rfl,rfl,rfl,rfl⟩|⟨x,rfl,hle,hm,hz,hcell,hwf⟩
  ·exact⟨[],λi hi=>by simp at hi,.isl0 ..⟩
  ·have hl:(z1.take len1).length=len1:=by simp;omega
   refine⟨z1.take len1,λi hi=>?_,?_⟩
   ·have h:=hwf _ (List.mem_of_mem_take (List.getElem_mem hi));simp only[Lit.wf,Bool.and_eq_true,decide_eq_true_eq]at h;rw[List.getD_eq_getElem?_getD,List.getElem?_eq_getElem hi];exact h
   ·have h:=(Go.Nc.row_conK hle (by unfold maxLen at hm;unfold Go.Nc.slMax;omega) hz hcell).mono (Im':=λb=>b<w.heap.size) (H':=w.heap) (λ_ h=>h.2) (λ_ _=>rfl);unfold Go.Nc.u8s;rw[hl];exact h
 exact Go.Nc.bestImproves_calls a0 len0 cap0 a1 len1 cap1 t u w hu2 _ (λ_ h=>h) ht hu
set_option maxRecDepth 100000 in
theorem lifted(os:Os)(started:os.Started)(H:Type)(enc:TypeId×Value->H) :
  ReturnsInHanded {} Tryz.checked os 7 .any (Rows.bestImprovesSpec.pre6 enc Tryz.prog Tryz.f7 Rows.bestImprovesRow.domain false) (Rows.bestImprovesSpec.post enc Tryz.prog Tryz.f7 false true false false):=by
 refine returnsInHanded_of_change (C:=Tryz.checked) own started (by kernel_rfl) Tryz.func7
  (ChangeSpec.witness6 (enc:=enc) (C:=Tryz.checked) false ⟨#[],#[.slice none 0 0,.slice none 0 0],[]⟩ 8 (by kernel_rfl) (by kernel_rfl) (by kernel_rfl) (by kernel_rfl)) ?_
 intro W base args ds gs before hval0 hW hcnd _;have hval:∀(j:Nat) t v,Tryz.f7.params[j]? =some t->args[j]? =some v->Value.okWide Tryz.prog W .any base t v:=hval0;have hW':=hW;obtain⟨p,q,hA0,hV,rfl,hfz,hnd⟩:=hW;have hA:DataW.TrodAll enc Tryz.prog W 0 (λ_=>true) true Tryz.f7.params.toList args.toList ds p:=hA0;rw[Tryz.params7]at hA hval;obtain⟨v0,vs0,d0,ds0,p0,q0,hargs,rfl,rfl,h0,r0⟩:=trodAll_cons hA;obtain⟨v1,vs1,d1,ds1,p1,q1,rfl,rfl,rfl,h1,r1⟩:=trodAll_cons r0;obtain⟨rfl,rfl,rfl⟩:=trodAll_nil r1;obtain rfl:args= #[v0,v1]:=by cases args;simp_all
 obtain⟨rfl,rfl⟩:=trodVars_none hV;obtain⟨a0,len0,cap0,rfl⟩:=okWide_slice Tryz.underlying22 (hval 0 22 v0 rfl rfl);have k0:=h0;have lt0:∀x∈p0,x.block<W.heap.size:=by obtain⟨m,hm⟩:=k0;exact DataW.trod_lt m _ _ _ hm
 obtain⟨z0,w0⟩:∃zs,IsRow .i64 W a0 len0 cap0 zs:=by
  obtain⟨fuel,hf⟩:=h0;rcases open_ints Tryz.underlying22 Tryz.underlying3 (by kernel_rfl) hf with⟨hcs,_⟩|⟨x,l,c,zs,hcs,_,hl,hm,hz,_,hcell,hwz⟩
  ·simp[Value.cells]at hcs;obtain⟨rfl,rfl,rfl⟩:=hcs;exact⟨[],.inl ⟨rfl,rfl,rfl,rfl⟩⟩
  ·simp[Value.cells]at hcs;obtain⟨rfl,rfl,rfl⟩:=hcs;exact⟨zs,.inr ⟨_,rfl,hl,hm,by simpa using hz,hcell,hwz⟩⟩
 obtain⟨a1,len1,cap1,rfl⟩:=okWide_slice Tryz.underlying69 (hval 1 69 v1 rfl rfl);have k1:=h1;have lt1:∀x∈p1,x.block<W.heap.size:=by obtain⟨m,hm⟩:=k1;exact DataW.trod_lt m _ _ _ hm
 obtain⟨z1,w1⟩:∃zs,IsRow .u8 W a1 len1 cap1 zs:=by
  obtain⟨fuel,hf⟩:=h1;rcases open_ints Tryz.underlying69 Tryz.underlying5 (by kernel_rfl) hf with⟨hcs,_⟩|⟨x,l,c,zs,hcs,_,hl,hm,hz,_,hcell,hwz⟩
  ·simp[Value.cells]at hcs;obtain⟨rfl,rfl,rfl⟩:=hcs;exact⟨[],.inl ⟨rfl,rfl,rfl,rfl⟩⟩
  ·simp[Value.cells]at hcs;obtain⟨rfl,rfl,rfl⟩:=hcs;exact⟨zs,.inr ⟨_,rfl,hl,hm,by simpa using hz,hcell,hwz⟩⟩
 clear hA0 hval0;refine(walk a0 len0 cap0 z0 a1 len1 cap1 z1 W w0 w1).mono λe W' ⟨he,bel⟩=>?_;subst he;exact⟨_,rfl,_,_,_,[],_,[],hW',trodAll_mk1 (shut_bool Tryz.underlying4 _),(trodAll_cons_mk (Below.trod laidOut (by kernel_rfl) (of_decide_eq_true (by kernel_rfl)) k0 bel lt0) (trodAll_cons_mk (Below.trod laidOut (by kernel_rfl) (of_decide_eq_true (by kernel_rfl)) k1 bel lt1) trodAll_mk0)),rfl,bel.frame _,λh=>by cases h⟩
theorem over:Rows.bestImprovesRow.holds Tryz.pinned (OpenSpec.ofChange Rows.bestImprovesSpec) :=
 OpenClaim.holds_of_wide 7 Tryz.f7 rfl rfl rfl rfl rfl rfl rfl ⟨rfl,rfl,rfl,rfl,rfl⟩ rfl rfl rfl rfl rfl (by as_aux_lemma=>kernel_rfl) Tryz.func7 closed
  (of_decide_eq_true (by as_aux_lemma=>kernel_rfl)) (by unfold Func.isWrapper;first|(rw[if_pos (by decide+kernel)];kernel_rfl)|(rw[if_neg (by decide+kernel)];exact⟨rfl,rfl⟩))
  (λos started H enc _=>lifted os started H enc)
theorem proved:Rows.BestImprovesSaid:=over
#print axioms proved
end Go.Proofs.YtbdkgpcdkalfdaaGreat.bestImproves
