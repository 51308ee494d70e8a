/-
 Proved here: the law FailureExact of chapter 42 returns true at any integers, promises, plan and numbers, and writes nothing that was there before the call.
 Conditions: none beyond the row's own.
-/
import Derived.Test.YtnnpilpjbjbafaaGreatRows
import Derived.WalkKit
import Derived.ProofKit
import Derived.OpenShut
import Derived.ShutString
import Derived.ChangeOld
import Derived.Below
import Derived.SizedLaws
import Derived.Test.YtnnpilpjbjbafaaGreatNdFinFailEx
import Derived.Test.YtnnpilpjbjbafaaGreatNdFailExFacts
namespace Go.Proofs.YtnnpilpjbjbafaaGreat.failureExact
open Go.ChangeShapes Go.WideShapes Go.ChangeAt Go.RowKit
open Go.ChangeMaps (open_string shut_string)
set_option linter.unusedVariables false
theorem own:ownKnob Tryz.prog.godebug = none:=by kernel_rfl
theorem laidOut:laidOutB Tryz.prog = true:=by kernel_rfl
theorem sz_arg {H:Type} {P:Program} {ts:List TypeId} {ds:List (DataW H)} (h:(DataW.weightsEach P ts ds).all (· <= reachBytes) = true) {j:Nat} {t:TypeId} {d:DataW H} (ht:ts[j]? = some t) (hd:ds[j]? = some d):∀ n ∈ d.weights P t,n <= reachBytes:=fun n hn=>by
 simpa using List.all_eq_true.1 h n (DataW.weights_mem_each ht hd n hn)
set_option maxRecDepth 100000 in
theorem lifted (os:Os) (started:os.Started) (H:Type) (enc:TypeId × Value -> H) :
  ReturnsInHanded {} Tryz.checked os 7 .any (Rows.failureExactSpec.pre6 enc Tryz.prog Tryz.f7 Rows.failureExactRow.domain false) (Rows.failureExactSpec.post enc Tryz.prog Tryz.f7 false true false false):=by
 refine returnsInHanded_of_change_sized (C:=Tryz.checked) own started (by kernel_rfl) Tryz.func7
  (ChangeSpec.witness6 (enc:=enc) (C:=Tryz.checked) false ⟨#[],#[.slice none 0 0,.slice none 0 0,.agg #[.slice none 0 0,.slice none 0 0,.slice none 0 0,.slice none 0 0],.slice none 0 0,.int .i64 0,.int .i64 0],[]⟩ 8 (by kernel_rfl) (by kernel_rfl) (by kernel_rfl) (by kernel_rfl)) ?_
 intro W base args ds gs before hval0 hW hcnd hsz0 _
 have hval:∀ (j:Nat) t v,Tryz.f7.params[j]? = some t -> args[j]? = some v -> Value.okWide Tryz.prog W .any base t v:=hval0
 have hW':=hW
 obtain ⟨p,q,hA0,hV,rfl,hfz,hnd⟩:=hW
 have hA:DataW.TrodAll enc Tryz.prog W 0 (fun _=>true) true Tryz.f7.params.toList args.toList ds p:=hA0
 have hsz:(DataW.weightsEach Tryz.prog (Tryz.f7.params.toList ++ Rows.failureExactSpec.plain.varTypes Tryz.prog) (ds ++ gs)).all (· <= reachBytes) = true:=hsz0
 rw [Tryz.params7] at hA hval hsz
 obtain ⟨v0,vs0,d0,ds0,p0,q0,hargs,rfl,rfl,h0,r0⟩:=trodAll_cons hA
 obtain ⟨v1,vs1,d1,ds1,p1,q1,rfl,rfl,rfl,h1,r1⟩:=trodAll_cons r0
 obtain ⟨v2,vs2,d2,ds2,p2,q2,rfl,rfl,rfl,h2,r2⟩:=trodAll_cons r1
 obtain ⟨v3,vs3,d3,ds3,p3,q3,rfl,rfl,rfl,h3,r3⟩:=trodAll_cons r2
 obtain ⟨v4,vs4,d4,ds4,p4,q4,rfl,rfl,rfl,h4,r4⟩:=trodAll_cons r3
 obtain ⟨v5,vs5,d5,ds5,p5,q5,rfl,rfl,rfl,h5,r5⟩:=trodAll_cons r4
 obtain ⟨rfl,rfl,rfl⟩:=trodAll_nil r5
 obtain rfl:args = #[v0,v1,v2,v3,v4,v5]:=by cases args;simp_all
 obtain ⟨rfl,rfl⟩:=trodVars_none hV
 obtain ⟨a0,len0,cap0,rfl⟩:=okWide_slice Tryz.underlying22 (hval 0 22 v0 rfl rfl)
 obtain ⟨a1,len1,cap1,rfl⟩:=okWide_slice Tryz.underlying32 (hval 1 32 v1 rfl rfl)
 obtain ⟨cs2,rfl,_⟩:=okWide_struct Tryz.underlying36 (hval 2 36 v2 rfl rfl)
 obtain ⟨a3,len3,cap3,rfl⟩:=okWide_slice Tryz.underlying22 (hval 3 22 v3 rfl rfl)
 obtain ⟨line,rfl⟩:=okWide_int Tryz.underlying3 (hval 4 3 v4 rfl rfl)
 obtain ⟨cap,rfl⟩:=okWide_int Tryz.underlying3 (hval 5 3 v5 rfl rfl)
 have lt0:∀ x ∈ p0,x.block < W.heap.size:=by obtain ⟨m,hm⟩:=h0;exact DataW.trod_lt m _ _ _ hm
 have lt1:∀ x ∈ p1,x.block < W.heap.size:=by obtain ⟨m,hm⟩:=h1;exact DataW.trod_lt m _ _ _ hm
 have lt2:∀ x ∈ p2,x.block < W.heap.size:=by obtain ⟨m,hm⟩:=h2;exact DataW.trod_lt m _ _ _ hm
 have lt3:∀ x ∈ p3,x.block < W.heap.size:=by obtain ⟨m,hm⟩:=h3;exact DataW.trod_lt m _ _ _ hm
 have lt4:∀ x ∈ p4,x.block < W.heap.size:=by obtain ⟨m,hm⟩:=h4;exact DataW.trod_lt m _ _ _ hm
 have lt5:∀ x ∈ p5,x.block < W.heap.size:=by obtain ⟨m,hm⟩:=h5;exact DataW.trod_lt m _ _ _ hm
 obtain ⟨t,k0,c0⟩:=Go.Nc.rz_argS Go.Nc.rz22 h0 (sz_arg hsz (j:=0) rfl rfl)
 obtain ⟨raw,k1,c1⟩:=Go.Nc.rz_argS Go.Nc.rzPs h1 (sz_arg hsz (j:=1) rfl rfl)
 obtain ⟨odd,k2,c2⟩:=Go.Nc.rz_argA Go.Nc.rzPl h2 (sz_arg hsz (j:=2) rfl rfl)
 obtain ⟨dn,k3,c3⟩:=Go.Nc.rz_argS Go.Nc.rz22 h3 (sz_arg hsz (j:=3) rfl rfl)
 clear hA0 hval0
 refine (Go.Nc.failureExact_calls t raw odd dn line cap k0 k1 k2 k3 _ _ _ _ W _ (fun _ h=>h) c0 c1 c2 c3).mono fun e W' ⟨he,bel⟩=>?_
 subst he
 exact ⟨_,rfl,_,_,_,[],_,[],hW',trodAll_mk1 (shut_bool Tryz.underlying4 _),(trodAll_cons_mk (Below.trod laidOut (by kernel_rfl) (of_decide_eq_true (by kernel_rfl)) h0 bel lt0) (trodAll_cons_mk (Below.trod laidOut (by kernel_rfl) (of_decide_eq_true (by kernel_rfl)) h1 bel lt1) (trodAll_cons_mk (Below.trod laidOut (by kernel_rfl) (of_decide_eq_true (by kernel_rfl)) h2 bel lt2) (trodAll_cons_mk (Below.trod laidOut (by kernel_rfl) (of_decide_eq_true (by kernel_rfl)) h3 bel lt3) (trodAll_cons_mk (Below.trod laidOut (by kernel_rfl) (of_decide_eq_true (by kernel_rfl)) h4 bel lt4) (trodAll_cons_mk (Below.trod laidOut (by kernel_rfl) (of_decide_eq_true (by kernel_rfl)) h5 bel lt5) trodAll_mk0)))))),rfl,bel.frame _,fun h=>by cases h⟩
theorem over:Rows.failureExactRow.holds Tryz.pinned (OpenSpec.ofChange Rows.failureExactSpec) :=
 OpenClaim.holds_of_wide 7 Tryz.f7 rfl rfl rfl rfl rfl rfl rfl ⟨rfl,rfl,rfl,rfl,rfl⟩ rfl rfl rfl rfl rfl (by as_aux_lemma=>kernel_rfl) Tryz.func7 closed
  (of_decide_eq_true (by as_aux_lemma=>kernel_rfl)) (by unfold Func.isWrapper;first|(rw [if_pos (by decide +kernel)];kernel_rfl)|(rw [if_neg (by decide +kernel)];exact ⟨rfl,rfl⟩))
  (fun os started H enc _=>lifted os started H enc)
theorem proved:Rows.FailureExactSaid:=over
#print axioms proved
end Go.Proofs.YtnnpilpjbjbafaaGreat.failureExact
