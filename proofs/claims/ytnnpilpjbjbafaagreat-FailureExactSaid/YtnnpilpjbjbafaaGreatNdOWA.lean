/- Parts. -/
import Derived.Below
import Derived.Laws.OwnMore
import Derived.Tactics2
import Derived.RowKit
import Derived.Test.YtnnpilpjbjbafaaGreatNdEA
import Derived.Test.YtnnpilpjbjbafaaGreatNdBS
namespace Go.Nc
open Go.Proofs.Tryz
open Go.RowKit
set_option maxHeartbeats 8000000
theorem dN {P:Program} {w:World} {ops:Array Oper} {rest:List Oper} {o:Oper} {a:Act} {Q:Exit -> Act -> World -> Prop} (hgd:o.guard = none) (s x:Operand) (t:TypeId)
  (ho:o.op = .call { callee:=.builtin .append,args:=#[s,x],argTypes:=#[t,t] }) {e:Nat} (ht:P.underlying t = some (.slice e)) {te:TI} (hte:TiOk P e te) (p q:Option Addr) (c:Nat)
  (hs:a.eval s = .slice p 0 0) (hx:a.eval x = .slice q 0 c) (h:wpList P ops Q rest (a.put o.dst (.slice p 0 0)) w):wpList P ops Q (o :: rest) a w:=by
 refine wpList_plain hgd fun K hK=>?_
 obtain ⟨i,z,hi,hsz,hby,hz,hzc,_⟩:=hte.info
 have hrun:(Builtin.append_ #[t,t] o.type #[.slice p 0 0,.slice q 0 c]).run P w = .ok (.slice p 0 0) w:=by
  cases p<;>cases q<;>simp [Builtin.append_,run_underlying ht,sizeOf,typeInfo,hi,Builtin.lenOf,Builtin.firstCells,loadCells,loadCellsFrom,storeCells]
 unfold Oper.wp
 simp [execOp,ho,resolve,invoke,builtin,hs,hx,hrun,Result.andThen]
 exact hK _ _ h
theorem r8 {P : Program} {f : FuncId} {fn : Func} {c : Code} (hf : P.funcs[f]? = some fn) (hb : fn.body = some c) (hname : (fn.name == "runtime.NumGoroutine") = false) (xs : Array Value) (w : World) : (callFunc f xs).run P w = .ok (.enter f xs) w := by
 have hne : ¬ fn.name = "runtime.NumGoroutine" := by simpa using hname
 simp [callFunc,hf,hne,hb]
theorem CallSpec.empty {P:Program} {f:FuncId} (he:∀ (xs:Array Value) (w:World),(callFunc f xs).run P w = .ok (.enter f xs) w)
  (h:∀ (w:World) (p:Option Addr) (c:Nat),Calls P f #[.slice p 0 c] w fun e w'=>(∃ q,e = .returned (.slice q 0 0))/\Below w.heap.size w w') (sz sz':Nat) (get get':Nat -> List AV):CallSpec P f [.isl 0 sz get] [] (.isl 0 sz' get') []:=by
 refine ⟨he,fun id ob h=>(by cases h),fun id ob h=>(by cases h),fun w ρ Im xs hm hx=>?_⟩
 obtain ⟨p,c,rfl⟩:∃ p c,xs = #[.slice p 0 c]:=by
  obtain ⟨h1,h2⟩:=hx
  obtain ⟨x,rfl⟩:∃ x,xs = #[x]:=by
   obtain ⟨l⟩:=xs
   match l,h1 with
   | [x],_=>exact ⟨x,rfl⟩
  have h3:=h2 0 _ x rfl rfl
  rcases h3.isl_inv with ⟨_,p,rfl⟩ | ⟨b,off,cap,arr,T,fr,rfl,_⟩
  ·exact ⟨p,0,rfl⟩
  ·exact ⟨_,cap,rfl⟩
 refine (h w p c).mono fun e w' hb=>?_
 obtain ⟨⟨q,rfl⟩,hb⟩:=hb
 refine ⟨_,ρ,Im,rfl,.imm _ _ (.isl0 ..),fun i hi=>(by cases hi),?_⟩
 refine ⟨fun id ob h=>(by cases h),fun id ob b h=>(by cases h),fun id id' ob ob' b h=>(by cases h),fun id ob h=>(by cases h),fun b hI=>Nat.lt_of_lt_of_le (hm.imlt b hI) hb.size,fun _ h=>h,fun _ h=>.inl h,
  hb.os,hb.tape,hb.output,hb.size,fun b hlt _=>hb.block b hlt,fun id h=>(by cases h),fun l r h=>⟨r.state,r.pending,?_⟩,fun l h=>(by cases h)⟩
 have hl:l < w.heap.size:=(Array.getElem?_eq_some_iff.1 h).1
 rw [hb.block l hl]
 exact h
theorem n9 {b n:Nat} {g:Nat -> List AV} (h:n <= 1099511627776 \/ b <= 8/\n <= 17592186044416) (h1:∀ q,q < n -> dO (g q) = true):pS b 0 n g:=⟨ω,h1⟩
open Go.Proofs Go.RowKit
set_option maxRecDepth 100000 in
theorem yJ (w:World) (p:Option Addr) (c:Nat):Calls prog 120 #[.slice p 0 c] w fun e w'=>(∃ q,e = .returned (.slice q 0 0))/\Below w.heap.size w w':=by
 have hte:=a8 3 _ rfl
 have hsl:prog.underlying 22 = some (.slice 3):=(a8 22 _ rfl).slice rfl
 have q22:∀ (w:World) (a:Option Addr) (n c n' c':Nat),(binOp .eql 22 (.slice a n c) (.slice none n' c')).run prog w = .ok (.bool a.isNone) w:=fun w a n c n' c'=>Lib.run_eql_slice_nil w _ _ a n c n' c' hsl
 have u22:∀ w,Sem.run prog (underlying 22) w = .ok (TypeDesc.slice 3) w:=run_underlying hsl
 cases p with
 | none=>
  go_enter func120,ntmps120
  go_wp2
  go_ret
  exact ⟨⟨none,rfl⟩,Below.refl _ _⟩
 | some a=>
  go_enter func120,ntmps120
  go_wp2_with (at_builtin;refine dN rfl _ _ 22 rfl hsl hte _ _ _ rfl rfl ?_)
  go_ret
  exact ⟨⟨_,rfl⟩,(Below.refl _ w).alloc (ξ _) _⟩
def Fit (l:List Int):Prop:=l.length <= 17592186044416
theorem yK (l:List Int) (hl:1 <= l.length/\l.length <= 17592186044416):q0d 120 [ints l] (ints l):=by
 refine opG func120 ntmps120 results120 fun _ _ _=>?_
 repeat' (first|refine' gj|(refine br [] [] [] [(2,.osl 7 l.length)] [(7,some (.arr l.length 1 (fun i=>[J (l.getD i 0)]) 3))] ⟨⟨rfl,rfl⟩,?_,?_⟩ (bZ 7 rfl rfl (fun _ _=>rfl) ?_ ?_ (dS ?_))))
 all_goals try omega
 ·skip
  all_goals ((refine' subP)<;>first|exact q0b ω fun i hi=>rfl|exact sq1)
 ·skip
  all_goals ((refine' subP)<;>first|exact Θ (congrArg (AV.osl 7) ω)|exact sq1)
 ·all_goals try refine' frzZ
 ·exact ⟨fun i hi=>by (repeat' (first|exact True.intro|refine And.intro ?_ ?_)),trivial⟩
 ·exact Ψ
 ·exact ⟨ω,n9 (.inr ⟨φ,hl.2⟩) (fun _ _=>rfl)⟩
theorem iG (l:List Int) (h:Fit l):q0d 120 [ints l] (ints l):=by
 rcases l with _ | ⟨x,r⟩
 ·exact CallSpec.empty (r8 func120 rfl (by kernel_rfl)) yJ 1 1 _ _
 ·exact yK (x :: r) ⟨by simp,h⟩
open Go.Proofs
theorem Br (c:Curve) (h:Fit c.vals):q0d 121 [c.av] c.av:=by
 have p:=iG c.vals h
 refine opG func121 ntmps121 results121 fun _ _ _=>?_
 repeat' (first|refine' aj|(refine ab p ?_))
 all_goals first|exact Ψ|omega
theorem DC (l:Line) (h1:Fit l.weights) (h2:Fit l.slots):q0d 102 [l.av] l.av:=by
 have p:=iG l.weights h1
 have q:=iG l.slots h2
 refine opG func102 ntmps102 results102 fun _ _ _=>?_
 repeat' (first|refine' aj|(refine ab p ?_)|(refine ab q ?_))
 all_goals first|exact Ψ|omega
theorem xl (f:Flow) (h1:Fit f.route) (h2:Fit f.con.vals):q0d 83 [f.av] f.av:=by
 have p:=iG f.route h1
 have q:=Br f.con h2
 refine opG func83 ntmps83 results83 fun _ _ _=>?_
 repeat' (first|refine' aj|(refine ab p ?_)|(refine ab q ?_))
 all_goals first|exact Ψ|omega
theorem DD (x:Prom) (h1:Fit x.flow.route) (h2:Fit x.flow.con.vals):q0d 148 [x.av] x.av:=by
 have p:=xl x.flow h1 h2
 refine opG func148 ntmps148 results148 fun _ _ _=>?_
 repeat' (first|refine' aj|(refine ab p ?_))
 all_goals first|exact Ψ|omega
def ju {α:Type} (enc:α -> List AV) (d:α) (z:List AV) (l:List α) (j:Nat):Nat -> List AV:=fun i=>bif Nat.blt i j then enc (l.getD i d) else z
theorem lP {α:Type} {enc:α -> List AV} {d:α} {z:List AV} {l:List α} {i j:Nat} (h:i < j):ju enc d z l j i = enc (l.getD i d):=by
 unfold ju
 rw [Nat.blt_eq.mpr h];rfl
theorem iY {α:Type} {enc:α -> List AV} {d:α} {z:List AV} {l:List α} (ids:List Nat) (he:∀ x,nmL ids (enc x) = true) (hz:nmL ids z = true) (j i:Nat):nmL ids (ju enc d z l j i) = true:=by
 unfold ju
 cases Nat.blt i j
 ·exact hz
 ·exact he _
theorem kW {α:Type} {enc:α -> List AV} {d:α} {z:List AV} {l:List α} {i j:Nat} {nw:List AV} (h:nw = enc (l.getD j d)):(bif Nat.beq i j then nw else ju enc d z l j i) = reL (luN []) (ju enc d z l (j + 1) i):=by
 rw [reL_id,h]
 by_cases e:i = j
 ·subst e
  rw [Nat.beq_refl,lP (Nat.lt_succ_self i)];rfl
 ·rw [show Nat.beq i j = false from Bool.eq_false_iff.mpr fun h=>e (Nat.eq_of_beq_eq_true h)]
  unfold ju
  rcases ζ i j with h1 | h1
  ·rw [Nat.blt_eq.mpr h1,Nat.blt_eq.mpr (by omega:i < j + 1)];rfl
  ·rw [show Nat.blt i j = false from Bool.eq_false_iff.mpr fun h=>by have:=Nat.blt_eq.mp h;omega,show Nat.blt i (j + 1) = false from Bool.eq_false_iff.mpr fun h=>by have:=Nat.blt_eq.mp h;omega];rfl
theorem kX {α:Type} {enc:α -> List AV} {d:α} {z:List AV} {l:List α} (j:Nat):ju enc d z l j j = z:=by
 unfold ju
 rw [show Nat.blt j j = false from Bool.eq_false_iff.mpr fun h=>by have:=Nat.blt_eq.mp h;omega];rfl
def zLine:List AV:=[J 0,J 0,J 0,.nils,.nils]
theorem Bs (l:List Line) (hl:l.length <= 1000000) (hf:∀ i,i < l.length -> Fit (l.getD i default).weights/\Fit (l.getD i default).slots) :
  ∃ _:Unit,True/\q0d 101 [slc 5 Line.cells default l,.fn 102 []] (slc 5 Line.cells default l):=by
 refine opE func101 ntmps101 results101 ?_
 by_cases h0:(l.length:Int) = 0
 ·skip
  repeat' (first|(refine aa (fun hb=>?_) (fun hb=>absurd h0 hb);conv=>whnf)|refine' ag | fail)
  all_goals try exact ariB
  refine aG ⟨(),?_,trivial⟩
  obtain rfl:l = []:=List.eq_nil_of_length_eq_zero ω
  exact AvLe.nils
 ·skip
  repeat' (first|(refine aa (fun hb=>absurd hb h0) (fun hb=>?_);conv=>whnf)|refine' ag | fail)
  all_goals try exact ariB
  refine ae (ι:={j:Nat // j <= l.length}) [1,14,15] [] [] ⟨0,π _⟩ (fun ⟨j,_⟩=>l.length - j) (fun ⟨j,_⟩=>[(5,.osl 13 l.length),(16,J j)]) (fun ⟨j,_⟩=>[(13,some (.arr l.length 5 (ju Line.cells default zLine l j) 93))]) ?_ ?_
  ·refine ⟨⟨rfl,rfl⟩,?_,?_⟩
   all_goals ((refine' subP)<;>first|exact fun i hi=>iY _ (fun _=>rfl) rfl _ _|exact q0b ω fun i hi=>rfl|exact Θ (congrArg (AV.osl 13) ω)|exact sq1)
  ·rintro ⟨j,hj⟩
   conv=>whnf
   by_cases hjl:(j:Int) < l.length
   ·have p1:=DC (l.getD (j:Int).toNat default) (hf j ω).1 (hf j ω).2
    repeat' (first|(refine aa (fun hb=>?_) (fun hb=>absurd hjl hb);conv=>whnf)|(refine' aR [] ⟨j + 1,ω⟩<;>first|(first|exact fun i hi=>iY _ (fun _=>rfl) rfl _ _|exact q0b rfl fun i hi=>kW (by show spl 0 _ (ju Line.cells default zLine l j j) = _;rw [kX];rfl))|exact sq1)|refine' ag|(refine ab p1 ?_))
    all_goals try exact ariB
   ·have ej:j = l.length:=ω
    subst ej
    repeat' (first|(refine aa (fun hb=>absurd hb hjl) (fun hb=>?_);conv=>whnf)|refine' ag | fail)
    refine aE [4] [] [] [] [(13,some (.arr l.length 5 (fun i=>Line.cells (l.getD i default)) 93))] ⟨⟨rfl,rfl⟩,?_,?_⟩ (aT 13 rfl rfl (fun _ _=>rfl) ?_ ?_ (aG ⟨(),?_,trivial⟩))
    ·skip
     all_goals ((refine' subP)<;>first|exact q0b rfl fun i hi=>lP ω|exact sq1)
    ·skip
     all_goals exact sq1
    ·all_goals try refine' frzZ
    ·exact ⟨fun i hi=>by (repeat' (first|exact True.intro|refine And.intro ?_ ?_)),trivial⟩
    ·exact Ψ
def zProm:List AV:=[.str .empty,.nils,J 0,J 0,J 0,.nils,J 0,J 0,J 0,J 0]
theorem Bt (l:List Prom) (hl:l.length <= 1000000) (hf:∀ i,i < l.length -> Fit (l.getD i default).flow.route/\Fit (l.getD i default).flow.con.vals) :
  ∃ _:Unit,True/\q0d 147 [slc 10 Prom.cells default l,.fn 148 []] (slc 10 Prom.cells default l):=by
 refine opE func147 ntmps147 results147 ?_
 by_cases h0:(l.length:Int) = 0
 ·skip
  repeat' (first|(refine aa (fun hb=>?_) (fun hb=>absurd h0 hb);conv=>whnf)|refine' ag | fail)
  all_goals try exact ariB
  refine aG ⟨(),?_,trivial⟩
  obtain rfl:l = []:=List.eq_nil_of_length_eq_zero ω
  exact AvLe.nils
 ·skip
  repeat' (first|(refine aa (fun hb=>absurd hb h0) (fun hb=>?_);conv=>whnf)|refine' ag | fail)
  all_goals try exact ariB
  refine ae (ι:={j:Nat // j <= l.length}) [1,14,15] [] [] ⟨0,π _⟩ (fun ⟨j,_⟩=>l.length - j) (fun ⟨j,_⟩=>[(5,.osl 13 l.length),(16,J j)]) (fun ⟨j,_⟩=>[(13,some (.arr l.length 10 (ju Prom.cells default zProm l j) 47))]) ?_ ?_
  ·refine ⟨⟨rfl,rfl⟩,?_,?_⟩
   all_goals ((refine' subP)<;>first|exact fun i hi=>iY _ (fun _=>rfl) rfl _ _|exact q0b ω fun i hi=>rfl|exact Θ (congrArg (AV.osl 13) ω)|exact sq1)
  ·rintro ⟨j,hj⟩
   conv=>whnf
   by_cases hjl:(j:Int) < l.length
   ·have p1:=DD (l.getD (j:Int).toNat default) (hf j ω).1 (hf j ω).2
    repeat' (first|(refine aa (fun hb=>?_) (fun hb=>absurd hjl hb);conv=>whnf)|(refine' aR [] ⟨j + 1,ω⟩<;>first|(first|exact fun i hi=>iY _ (fun _=>rfl) rfl _ _|exact q0b rfl fun i hi=>kW (by show spl 0 _ (ju Prom.cells default zProm l j j) = _;rw [kX];rfl))|exact sq1)|refine' ag|(refine ab p1 ?_))
    all_goals try exact ariB
   ·have ej:j = l.length:=ω
    subst ej
    repeat' (first|(refine aa (fun hb=>absurd hb hjl) (fun hb=>?_);conv=>whnf)|refine' ag | fail)
    refine aE [4] [] [] [] [(13,some (.arr l.length 10 (fun i=>Prom.cells (l.getD i default)) 47))] ⟨⟨rfl,rfl⟩,?_,?_⟩ (aT 13 rfl rfl (fun _ _=>rfl) ?_ ?_ (aG ⟨(),?_,trivial⟩))
    ·skip
     all_goals ((refine' subP)<;>first|exact q0b rfl fun i hi=>lP ω|exact sq1)
    ·skip
     all_goals exact sq1
    ·all_goals try refine' frzZ
    ·exact ⟨fun i hi=>by (repeat' (first|exact True.intro|refine And.intro ?_ ?_)),trivial⟩
    ·exact Ψ
theorem DE (l:List (List Int)) (hl:l.length <= 1000000) (hf:∀ i,i < l.length -> Fit (l.getD i [])) :
  ∃ _:Unit,True/\q0d 149 [slc 1 bX [] l,.fn 120 []] (slc 1 bX [] l):=by
 refine opE func149 ntmps149 results149 ?_
 by_cases h0:(l.length:Int) = 0
 ·skip
  repeat' (first|(refine aa (fun hb=>?_) (fun hb=>absurd h0 hb);conv=>whnf)|refine' ag | fail)
  all_goals try exact ariB
  refine aG ⟨(),?_,trivial⟩
  obtain rfl:l = []:=List.eq_nil_of_length_eq_zero ω
  exact AvLe.nils
 ·skip
  repeat' (first|(refine aa (fun hb=>absurd hb h0) (fun hb=>?_);conv=>whnf)|refine' ag | fail)
  all_goals try exact ariB
  refine ae (ι:={j:Nat // j <= l.length}) [1,14,15] [] [] ⟨0,π _⟩ (fun ⟨j,_⟩=>l.length - j) (fun ⟨j,_⟩=>[(5,.osl 13 l.length),(16,J j)]) (fun ⟨j,_⟩=>[(13,some (.arr l.length 1 (ju bX [] [.nils] l j) 22))]) ?_ ?_
  ·refine ⟨⟨rfl,rfl⟩,?_,?_⟩
   all_goals ((refine' subP)<;>first|exact fun i hi=>iY _ (fun _=>rfl) rfl _ _|exact q0b ω fun i hi=>rfl|exact Θ (congrArg (AV.osl 13) ω)|exact sq1)
  ·rintro ⟨j,hj⟩
   conv=>whnf
   by_cases hjl:(j:Int) < l.length
   ·have p1:=iG (l.getD (j:Int).toNat []) (hf j ω)
    repeat' (first|(refine aa (fun hb=>?_) (fun hb=>absurd hjl hb);conv=>whnf)|(refine' aR [] ⟨j + 1,ω⟩<;>first|(first|exact fun i hi=>iY _ (fun _=>rfl) rfl _ _|exact q0b rfl fun i hi=>kW (by show spl 0 _ (ju bX [] [.nils] l j j) = _;rw [kX];rfl))|exact sq1)|refine' ag|(refine ab p1 ?_))
    all_goals try exact ariB
   ·have ej:j = l.length:=ω
    subst ej
    repeat' (first|(refine aa (fun hb=>absurd hb hjl) (fun hb=>?_);conv=>whnf)|refine' ag | fail)
    refine aE [4] [] [] [] [(13,some (.arr l.length 1 (fun i=>bX (l.getD i [])) 22))] ⟨⟨rfl,rfl⟩,?_,?_⟩ (aT 13 rfl rfl (fun _ _=>rfl) ?_ ?_ (aG ⟨(),?_,trivial⟩))
    ·skip
     all_goals ((refine' subP)<;>first|exact q0b rfl fun i hi=>lP ω|exact sq1)
    ·skip
     all_goals exact sq1
    ·all_goals try refine' frzZ
    ·exact ⟨fun i hi=>by (repeat' (first|exact True.intro|refine And.intro ?_ ?_)),trivial⟩
    ·exact Ψ
theorem nA (l:List Line) (hl:l.length <= 1000000) (hf:∀ i,i < l.length -> Fit (l.getD i default).weights/\Fit (l.getD i default).slots):q0d 59 [slc 5 Line.cells default l] (slc 5 Line.cells default l):=by
 obtain ⟨_,_,p⟩:=Bs l hl hf
 refine opG func59 ntmps59 results59 fun _ _ _=>?_
 repeat' (first|refine' aj|(refine ab p ?_))
 all_goals first|exact Ψ|omega
theorem Bu (l:List Prom) (hl:l.length <= 1000000) (hf:∀ i,i < l.length -> Fit (l.getD i default).flow.route/\Fit (l.getD i default).flow.con.vals):q0d 135 [slc 10 Prom.cells default l] (slc 10 Prom.cells default l):=by
 obtain ⟨_,_,p⟩:=Bt l hl hf
 refine opG func135 ntmps135 results135 fun _ _ _=>?_
 repeat' (first|refine' aj|(refine ab p ?_))
 all_goals first|exact Ψ|omega
theorem DF (l:List (List Int)) (hl:l.length <= 1000000) (hf:∀ i,i < l.length -> Fit (l.getD i [])):q0d 136 [ay l] (ay l):=by
 obtain ⟨_,_,p⟩:=DE l hl hf
 refine opG func136 ntmps136 results136 fun _ _ _=>?_
 repeat' (first|refine' aj|(refine ab p ?_))
 all_goals first|exact Ψ|omega
set_option maxRecDepth 100000 in
theorem yL (w:World) (p:Option Addr) (c:Nat):Calls prog 58 #[.slice p 0 c] w fun e w'=>(∃ q,e = .returned (.slice q 0 0))/\Below w.heap.size w w':=by
 have hte:=a8 9 _ rfl
 have hsl:prog.underlying 26 = some (.slice 9):=(a8 26 _ rfl).slice rfl
 have q22:∀ (w:World) (a:Option Addr) (n c n' c':Nat),(binOp .eql 26 (.slice a n c) (.slice none n' c')).run prog w = .ok (.bool a.isNone) w:=fun w a n c n' c'=>Lib.run_eql_slice_nil w _ _ a n c n' c' hsl
 have u22:∀ w,Sem.run prog (underlying 26) w = .ok (TypeDesc.slice 9) w:=run_underlying hsl
 cases p with
 | none=>
  go_enter func58,ntmps58
  go_wp2
  go_ret
  exact ⟨⟨none,rfl⟩,Below.refl _ _⟩
 | some a=>
  go_enter func58,ntmps58
  go_wp2_with (at_builtin;refine dN rfl _ _ 26 rfl hsl hte _ _ _ rfl rfl ?_)
  go_ret
  exact ⟨⟨_,rfl⟩,(Below.refl _ w).alloc (ξ _) _⟩
theorem yM (l:List ByteArray) (hl:1 <= l.length/\l.length <= 1099511627776):q0d 58 [slc 1 encS .empty l] (slc 1 encS .empty l):=by
 refine opG func58 ntmps58 results58 fun _ _ _=>?_
 repeat' (first|refine' gj|(refine br [] [] [] [(2,.osl 7 l.length)] [(7,some (.arr l.length 1 (fun i=>encS (l.getD i .empty)) 9))] ⟨⟨rfl,rfl⟩,?_,?_⟩ (bZ 7 rfl rfl (fun _ _=>rfl) ?_ ?_ (dS ?_))))
 all_goals try omega
 ·skip
  all_goals ((refine' subP)<;>first|exact q0b ω fun i hi=>rfl|exact sq1)
 ·skip
  all_goals ((refine' subP)<;>first|exact Θ (congrArg (AV.osl 7) ω)|exact sq1)
 ·all_goals try refine' frzZ
 ·exact ⟨fun i hi=>by (repeat' (first|exact True.intro|refine And.intro ?_ ?_)),trivial⟩
 ·exact Ψ
 ·exact ⟨ω,n9 ω (fun _ _=>rfl)⟩
theorem nC (l:List ByteArray) (h:l.length <= 1099511627776):q0d 58 [slc 1 encS .empty l] (slc 1 encS .empty l):=by
 rcases l with _ | ⟨x,r⟩
 ·exact CallSpec.empty (r8 func58 rfl (by kernel_rfl)) yL 1 1 _ _
 ·exact yM (x :: r) ⟨by simp,h⟩
structure PlanFit (p:Plan):Prop where
 names:p.names.length <= 1000000
 lines:p.lines.length <= 1000000
 line:∀ i,i < p.lines.length -> Fit (p.lines.getD i default).weights/\Fit (p.lines.getD i default).slots
 proms:p.proms.length <= 1000000
 prom:∀ i,i < p.proms.length -> Fit (p.proms.getD i default).flow.route/\Fit (p.proms.getD i default).flow.con.vals
 dels:p.dels.length <= 1000000
 del:∀ i,i < p.dels.length -> Fit (p.dels.getD i [])
theorem DG (p:Plan) (h:PlanFit p):q0d 108 [p.av] p.av:=by
 have p1:=nC p.names (by have:=h.names;omega)
 have p2:=nA p.lines h.lines h.line
 have p3:=Bu p.proms h.proms h.prom
 have p4:=DF p.dels h.dels h.del
 refine opG func108 ntmps108 results108 fun _ _ _=>?_
 repeat' (first|refine' aj|(refine ab p1 ?_)|(refine ab p2 ?_)|(refine ab p3 ?_)|(refine ab p4 ?_))
 all_goals first|exact Ψ|omega
theorem xm {f X:Nat -> List AV} {n i:Nat} (hX:X 0 = f n) (hi:i < n + 1):(bif Nat.blt i n then f i else X (i - n)) = f i:=by
 by_cases h:i < n
 ·rw [Nat.blt_eq.mpr h];rfl
 ·have e:i = n:=ω
  subst e
  rw [show Nat.blt i i = false by cases hb:Nat.blt i i with | false=>rfl | true=>exact absurd (Nat.blt_eq.mp hb) (Nat.lt_irrefl _),Nat.sub_self]
  exact hX
theorem nD (p:Plan) (i:Nat):p.net.flows.getD i default = (p.proms.getD i default).flow:=by
 show (p.proms.map Prom.flow).getD i default = _
 rw [ψ,ψ,List.getElem?_map]
 cases p.proms[i]?<;>rfl
theorem Bv (p:Plan) (h:PlanFit p):∃ _:Unit,True/\q0d 28 [p.av] p.net.av:=by
 have p1:=nC p.names (by have:=h.names;omega)
 have p2:=nA p.lines h.lines h.line
 obtain ⟨l,el⟩:∃ l,l = p.proms:=⟨_,rfl⟩
 have hl:=h.proms
 have hf:=h.prom
 rw [<- el] at hl hf
 have eav:p.av = .agg [slc 1 encS .empty p.names,slc 5 Line.cells default p.lines,slc 10 Prom.cells default l,ay p.dels]:=by rw [el];rfl
 rw [eav]
 refine opE func28 ntmps28 results28 ?_
 repeat' (first|refine' ag|(refine ab p1 ?_)|(refine ab p2 ?_))
 refine ⟨aD (fun _ _ _=>kD 3 2 100 8 45 rfl rfl rfl rfl) (ae (ι:={j:Nat // j <= l.length}) [2,3,14,15] [2] [] ⟨0,π _⟩ (fun ⟨j,_⟩=>l.length - j) (fun ⟨j,_⟩=>[(16,J j)]) (fun ⟨j,_⟩=>[(3,some (.box [slc 1 encS .empty p.names,slc 5 Line.cells default p.lines,.osl 100 j])),(100,some (.arr j 8 (fun i=>Flow.cells (l.getD i default).flow) 45))]) ?_ ?_).good⟩
 ·refine ⟨⟨rfl,rfl⟩,?_,?_⟩
  all_goals ((refine' subP)<;>first|exact q0b rfl (ν)|exact sq1)
 ·rintro ⟨j,hj⟩
  conv=>whnf
  by_cases hjl:(j:Int) < l.length
  ·have p3:=xl (l.getD (j:Int).toNat default).flow (hf j ω).1 (hf j ω).2
   repeat' (first|(refine aa (fun hb=>?_) (fun hb=>absurd hjl hb);conv=>whnf)|(refine' aR [(100,26)] ⟨j + 1,ω⟩<;>first|exact q0b rfl fun q hq=>xm (f:=fun q=>Flow.cells (l.getD q default).flow) (X:=fun q=>List.take ti45.size (List.drop (q * ti45.size) (spl (0 * ti45.size) (l.getD (j:Int).toNat default).flow.av.cellsL (repL 1 ti45.zero)))) rfl hq|exact sq1)|refine' ag|(refine ab p3 ?_))
   all_goals try first|exact ariA|exact ⟨ξ _,ω,fun q hq=>(by obtain rfl:q = 0:=ω;rfl)⟩
  ·have ej:j = l.length:=ω
   subst ej
   repeat' (first|(refine aa (fun hb=>absurd hb hjl) (fun hb=>?_);conv=>whnf)|refine' ag | fail)
   refine aE [2] [] [] [] [(2,some (.box [slc 1 encS .empty p.names,slc 5 Line.cells default p.lines,.osl 100 l.length])),(100,some (.arr l.length 8 (fun i=>Flow.cells (l.getD i default).flow) 45))] ⟨⟨rfl,rfl⟩,?_,?_⟩ (aT 100 rfl rfl (fun _ _=>rfl) ?_ ?_ (aG ⟨(),?_,trivial⟩))
   ·skip
    all_goals exact sq1
   ·skip
    all_goals exact sq1
   ·all_goals try refine' frzZ
   ·all_goals try refine' frzZ
   ·conv=>whnf
    subst el
    exact AvLe.agg (.cons Ψ (.cons Ψ (.cons (Γ (p.proms.length_map _).symm fun i hi=>by rw [<- nD p]) .nil)))
theorem r9 (p:Plan) (hl:p.proms.length <= 1000000):∃ _:Unit,True/\q0d 29 [p.av] p.net.av:=by
 obtain ⟨l,el⟩:∃ l,l = p.proms:=⟨_,rfl⟩
 rw [<- el] at hl
 have eav:p.av = .agg [slc 1 encS .empty p.names,slc 5 Line.cells default p.lines,slc 10 Prom.cells default l,ay p.dels]:=by rw [el];rfl
 rw [eav]
 refine opE func29 ntmps29 results29 ?_
 repeat' (first|refine' ag | fail)
 refine ⟨aD (fun _ _ _=>kD 3 2 100 8 45 rfl rfl rfl rfl) (ae (ι:={j:Nat // j <= l.length}) [1,2,3] [1,2] [] ⟨0,π _⟩ (fun ⟨j,_⟩=>l.length - j) (fun ⟨j,_⟩=>[(4,J j)]) (fun ⟨j,_⟩=>[(3,some (.box [slc 1 encS .empty p.names,slc 5 Line.cells default p.lines,.osl 100 j])),(100,some (.arr j 8 (fun i=>Flow.cells (l.getD i default).flow) 45))]) ?_ ?_).good⟩
 ·refine ⟨⟨rfl,rfl⟩,?_,?_⟩
  all_goals ((refine' subP)<;>first|exact q0b rfl (ν)|exact sq1)
 ·rintro ⟨j,hj⟩
  conv=>whnf
  by_cases hjl:(j:Int) < l.length
  ·skip
   repeat' (first|(refine aa (fun hb=>?_) (fun hb=>absurd hjl hb);conv=>whnf)|(refine' aR [(100,26)] ⟨j + 1,ω⟩<;>first|exact q0b rfl fun q hq=>xm (f:=fun q=>Flow.cells (l.getD q default).flow) (X:=fun q=>List.take ti45.size (List.drop (q * ti45.size) (spl (0 * ti45.size) (l.getD (j:Int).toNat default).flow.av.cellsL (repL 1 ti45.zero)))) rfl hq|exact sq1)|refine' ag | fail)
   all_goals try first|exact ariA|exact ⟨ξ _,ω,fun q hq=>(by obtain rfl:q = 0:=ω;rfl)⟩
  ·have ej:j = l.length:=ω
   subst ej
   repeat' (first|(refine aa (fun hb=>absurd hb hjl) (fun hb=>?_);conv=>whnf)|refine' ag | fail)
   refine aE [2] [] [] [] [(2,some (.box [slc 1 encS .empty p.names,slc 5 Line.cells default p.lines,.osl 100 l.length])),(100,some (.arr l.length 8 (fun i=>Flow.cells (l.getD i default).flow) 45))] ⟨⟨rfl,rfl⟩,?_,?_⟩ (aT 100 rfl rfl (fun _ _=>rfl) ?_ ?_ (aG ⟨(),?_,trivial⟩))
   ·skip
    all_goals exact sq1
   ·skip
    all_goals exact sq1
   ·all_goals try refine' frzZ
   ·all_goals try refine' frzZ
   ·conv=>whnf
    subst el
    exact AvLe.agg (.cons Ψ (.cons Ψ (.cons (Γ (p.proms.length_map _).symm fun i hi=>by rw [<- nD p]) .nil)))
end Go.Nc