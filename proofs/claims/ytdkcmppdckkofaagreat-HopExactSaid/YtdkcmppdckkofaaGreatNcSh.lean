/- Standing parts of the walks, stated once: each proof here is what its last argument's default does. -/
import Derived.Test.YtdkcmppdckkofaaGreatNcS
namespace Go.Nc
open Go.Proofs.Tryz
open Go.Proofs
theorem nR {G:Prop} (g:G) (_:g = g):G:=g
theorem uE {G:Prop} (g:G) (_:g = g):G:=g
theorem ak {p:Prop} (h:p:=by
 first
 | ((first|(refine gv ?_;conv=>whnf)|(refine aa (fun hb=>?_) (fun hb=>?_)<;>conv=>whnf)|(refine aq (fun hb=>?_) (fun hb=>?_)<;>conv=>whnf)|(refine bm ⟨?_,trivial⟩;conv=>whnf)|(refine Side.mk ?_ ?_;rotate_left;conv=>whnf)|(refine VCells.mk ⟨_,rfl,?_⟩;conv=>whnf)|(refine DrawOk.mk ⟨rfl,rfl⟩ ?_;conv=>whnf)|fail);all_goals (rcases nR _ rfl with hq;exact hq))
 | fail):p:=h
theorem dG {p:Prop} (h:p:=by
 first
 | ((first|(refine gv ?_;conv=>whnf)|(refine aa (fun hb=>?_) (fun hb=>?_)<;>conv=>whnf)|(refine aq (fun hb=>?_) (fun hb=>?_)<;>conv=>whnf)|(refine xP ?_ ?_;conv=>whnf)|(refine Side.mk ?_ ?_;rotate_left;conv=>whnf)|(refine VCells.mk ⟨_,rfl,?_⟩;conv=>whnf)|(refine DrawOk.mk ⟨rfl,rfl⟩ ?_;conv=>whnf)|fail);all_goals (rcases nR _ rfl with hq;exact hq))
 | fail):p:=h
theorem gN {p:Prop} (h:p:=by
 first
 | ((first|(refine gv ?_;conv=>whnf)|(refine aa (fun hb=>?_) (fun hb=>?_)<;>conv=>whnf)|(refine aq (fun hb=>?_) (fun hb=>?_)<;>conv=>whnf)|(refine Side.mk ?_ ?_;rotate_left;conv=>whnf)|(refine VCells.mk ⟨_,rfl,?_⟩;conv=>whnf)|(refine DrawOk.mk ⟨rfl,rfl⟩ ?_;conv=>whnf)|fail);all_goals (rcases nR _ rfl with hq;exact hq))
 | fail):p:=h
section
variable {P:Program}
theorem ab {f:FuncId} {vs:List AV} {o:Nat -> Option LObj} {k:List Nat -> AV -> List (Nat × Option LObj) -> Prop} {r:AV} {q:Prop} (h:CallSpec P f vs [] r []) (g:q) (e:q -> k [] r []:=by intro q;(conv=>whnf);exact q):vCall P f vs o k:=bO h (e g)
theorem a6 {f:FuncId} {vs:List AV} {o:Nat -> Option LObj} {k:List Nat -> AV -> List (Nat × Option LObj) -> Prop} {r:AV} {id:Nat} {a b:LObj} {q:Prop} (h:CallSpec P f vs [(id,a)] r [(id,b)]) (g:q) (hin:o id = some a:=by rfl) (e:q -> k [id,id] r [(id,some b)]:=by intro q;(conv=>whnf);exact q):vCall P f vs o k:=i4 h hin (e g)
end
theorem subB {p:Prop} (h:p:=by
 (repeat1' (first|(refine Θ ?_;first|omega|(dsimp only;omega)|rfl)|exact Φ|exact Γ|exact True.intro|rfl|exact fun _ _=>rfl|refine And.intro ?_ ?_))
 all_goals (rcases uE _ rfl with hq;exact hq)):p:=h
theorem frzZ {p:Prop} (h:p:=by
 (repeat1' (first|exact True.intro|exact ξ _|exact ⟨ξ _,rfl⟩|refine And.intro ?_ ?_|refine fun _ _=>?_))
 all_goals (rcases uE _ rfl with hq;exact hq)):p:=h
theorem frzQ {p:Prop} (h:p:=by
 first|((repeat' (first|exact True.intro|refine And.intro ?_ ?_))<;>first|exact ξ _|exact fun i hi=>⟨trivial,trivial⟩|exact ax (by repeat' (first|exact True.intro|exact ξ _|refine And.intro ?_ ?_))) | fail):p:=h
theorem ariA {p:Prop} (h:p:=by first|omega|(unfold aj;omega)):p:=h
theorem υ {p:Prop} (h:p:=by unfold aj;omega):p:=h
theorem ariB {p:Prop} (h:p:=by first|omega|(unfold aj;omega)|(exfalso;omega)):p:=h
theorem opG {f:FuncId} {fn:Func} {c:Code} {nt:Nat} {rs:List ResultVar} {args:List AV} {ins outs:List (Nat × LObj)} {r:AV} (hf:prog.funcs[f]? = some fn) (hnt:fn.ntmps = nt) (hrs:fn.results = rs.toArray)
  (h:∀ (w0:World0) (Im0:Nat -> Prop) (ρ0:Loc),GoodS prog ⟨w0,Im0,ins.map (·.1),ρ0,nt⟩ c ⟨jk 0 args,cS ins⟩ (Fin T ⟨w0,Im0,ins.map (·.1),ρ0,nt⟩ rs r outs))
  (hb : fn.body = some c := by exact rfl) (hname : (fn.name == "runtime.NumGoroutine") = false := by kernel_rfl) (hlen : args.length ≤ nt := by simp)
  (hcl:(ins.all fun p=>p.2.live) = true/\nmL (ins.map (·.1)) args = true/\nmV (outs.map (·.1)) r = true/\(∀ p ∈ ins,obCl (ins.map (·.1)) p.2)/\(∀ p ∈ outs,obCl (outs.map (·.1)) p.2)/\(ins.all fun p=>(outs.map (·.1)).elem p.1) = true:=by exact ⟨rfl,rfl,rfl,by simp,by simp,rfl⟩) :
  q0b f args ins r outs:=aQ aB c nt rs hf hb hname hnt (by rw [hrs]) hlen hcl h
end Go.Nc
