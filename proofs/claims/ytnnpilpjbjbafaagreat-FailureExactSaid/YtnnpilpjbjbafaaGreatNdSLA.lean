/- Parts. -/
import Derived.Test.YtnnpilpjbjbafaaGreatNdOWA
namespace Go.Nc
open Go.Proofs.Tryz
open Go.Proofs Go.RowKit
set_option maxHeartbeats 2000000 in
set_option maxRecDepth 100000 in
theorem yP (w:World) (p:Option Addr) (c:Nat):Calls prog 64 #[.slice p 0 c] w fun e w'=>(∃ q,e = .returned (.slice q 0 0))/\Below w.heap.size w w':=by
 have hte:=a8 47 _ rfl
 have hsl:prog.underlying 32 = some (.slice 47):=(a8 32 _ rfl).slice rfl
 have q22:∀ (w:World) (a:Option Addr) (n c n' c':Nat),(binOp .eql 32 (.slice a n c) (.slice none n' c')).run prog w = .ok (.bool a.isNone) w:=fun w a n c n' c'=>Lib.run_eql_slice_nil w _ _ a n c n' c' hsl
 have u22:∀ w,Sem.run prog (underlying 32) w = .ok (TypeDesc.slice 47) w:=run_underlying hsl
 cases p with
 | none=>
  go_enter func64,ntmps64
  go_wp2
  go_ret
  exact ⟨⟨none,rfl⟩,Below.refl _ _⟩
 | some a=>
  go_enter func64,ntmps64
  go_wp2_with (at_builtin;refine dN rfl _ _ 32 rfl hsl hte _ _ _ rfl rfl ?_)
  go_ret
  exact ⟨⟨_,rfl⟩,(Below.refl _ w).alloc (ξ _) _⟩
theorem CallSpec.emptyE {P:Program} {f:FuncId} (he:∀ (xs:Array Value) (w:World),(callFunc f xs).run P w = .ok (.enter f xs) w)
  (h:∀ (w:World) (p:Option Addr) (c:Nat),Calls P f #[.slice p 0 c] w fun e w'=>(∃ q,e = .returned (.slice q 0 0))/\Below w.heap.size w w') (sz:Nat) (get:Nat -> List AV):CallSpec P f [.isl 0 sz get] [] .emp []:=by
 refine ⟨he,fun id ob h=>(by cases h),fun id ob h=>(by cases h),fun w ρ Im xs hm hx=>?_⟩
 obtain ⟨p,c,rfl⟩:∃ p c,xs = #[.slice p 0 c]:=by
  obtain ⟨h1,h2⟩:=hx
  obtain ⟨x,rfl⟩:∃ x,xs = #[x]:=by
   obtain ⟨l⟩:=xs
   match l,h1 with
   | [x],_=>exact ⟨x,rfl⟩
  have h3:=h2 0 _ x rfl rfl
  rcases h3.isl_inv with ⟨_,p,rfl⟩ | ⟨b,off,cap,arr,T,fr,rfl,_⟩
  ·exact ⟨p,0,rfl⟩
  ·exact ⟨_,cap,rfl⟩
 refine (h w p c).mono fun e w' hb=>?_
 obtain ⟨⟨q,rfl⟩,hb⟩:=hb
 refine ⟨_,ρ,Im,rfl,.imm _ _ (.emp q),fun i hi=>(by cases hi),?_⟩
 refine ⟨fun id ob h=>(by cases h),fun id ob b h=>(by cases h),fun id id' ob ob' b h=>(by cases h),fun id ob h=>(by cases h),fun b hI=>Nat.lt_of_lt_of_le (hm.imlt b hI) hb.size,fun _ h=>h,fun _ h=>.inl h,
  hb.os,hb.tape,hb.output,hb.size,fun b hlt _=>hb.block b hlt,fun id h=>(by cases h),fun l r h=>⟨r.state,r.pending,?_⟩,fun l h=>(by cases h)⟩
 have hl:l < w.heap.size:=(Array.getElem?_eq_some_iff.1 h).1
 rw [hb.block l hl]
 exact h
theorem pE:q0d 64 [slc 10 Prom.cells default []] .emp:=CallSpec.emptyE (r8 func64 rfl (by kernel_rfl)) yP 10 _
def pArr (l:List Prom):LObj:=.arr l.length 10 (fun i=>Prom.cells (l.getD i default)) 47
theorem Fm (l:List Prom) (id:Nat):∀ q ∈ [(id,pArr l)],obCl ([(id,pArr l)].map (·.1)) q.2:=fun q hq=>by
 rw [List.mem_singleton.1 hq]
 exact fun i _=>rfl
theorem pF (l:List Prom) (hl:1 <= l.length/\l.length <= 1000000):q0c 64 [slc 10 Prom.cells default l] [] (.osl 850 l.length) [(850,pArr l)]:=by
 refine opG func64 ntmps64 results64 (fun _ _ _=>?_) (hcl:=⟨rfl,rfl,rfl,by simp,Fm l 850,rfl⟩)
 repeat' (first|refine' gj|(refine br [] [] [(850,7)] [(2,.osl 850 l.length)] [(850,some (pArr l))] ⟨⟨rfl,rfl⟩,?_,?_⟩ (fh ?_ ?_)))
 all_goals try omega
 ·skip
  all_goals ((refine' subP)<;>first|exact q0b ω fun i hi=>rfl|exact Θ (congrArg (AV.osl 7) ω)|exact sq1)
 ·skip
  all_goals ((refine' subP)<;>first|exact Θ (congrArg (AV.osl 7) ω)|exact q0b ω fun i hi=>rfl|exact sq1)
 ·exact Ψ
 ·rfl
 ·exact ⟨ω,n9 ω (fun _ _=>rfl)⟩
open Go.Proofs
theorem obArrP {n sz:Nat} {g g':Nat -> List AV} {T:Nat} (h:∀ i,i < n -> AvsLe (g i) (g' i)):ObLe (.arr n sz g T) (.arr n sz g' T):=by
 refine ⟨_root_.rfl,fun ρ Im H id hc=>?_⟩
 cases hc with
 | arr0 _ _ _ h1=>exact .arr0 _ _ _ h1
 | arr _ _ _ _ b xs h1 h2 h3 h4 h5 h6 h7 h8=>
  refine .arr _ _ _ _ b xs h1 h2 h3 h4 h5 h6 (fun i hi=>by rw [<- (h i hi).length];exact h7 i hi) fun i j c x hi hj hx=>?_
  obtain ⟨u,hu,hle⟩:=(h i hi).get j c hj
  exact hle.con _ _ _ _ (h8 i j u x hi hu hx)
end Go.Nc