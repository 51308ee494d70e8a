/- Merged: SL2, SLO, SLD, IX1, IX2, IX3. -/
import Derived.Test.YtnnpilpjbjbafaaGreatNcOWA
import Derived.Test.YtnnpilpjbjbafaaGreatNcBS
import Derived.Test.YtnnpilpjbjbafaaGreatNcEA
namespace Go.Nc
open Go.Proofs.Tryz
open Go.Proofs Go.RowKit
set_option maxHeartbeats 2000000 in
set_option maxRecDepth 100000 in
theorem yl (w:World) (p:Option Addr) (c:Nat):Calls prog 64 #[.slice p 0 c] w fun e w'=>(∃ q,e = .returned (.slice q 0 0))/\Below w.heap.size w w':=by
 have hte:=a6 47 _ rfl
 have hsl:prog.underlying 32 = some (.slice 47):=(a6 32 _ rfl).slice rfl
 have q22:∀ (w:World) (a:Option Addr) (n c n' c':Nat),(binOp .eql 32 (.slice a n c) (.slice none n' c')).run prog w = .ok (.bool a.isNone) w:=fun w a n c n' c'=>Lib.run_eql_slice_nil w _ _ a n c n' c' hsl
 have u22:∀ w,Sem.run prog (underlying 32) w = .ok (TypeDesc.slice 47) w:=run_underlying hsl
 cases p with
 | none=>
  go_enter func64,ntmps64
  go_wp2
  go_ret
  exact ⟨⟨none,rfl⟩,Below.refl _ _⟩
 | some a=>
  go_enter func64,ntmps64
  go_wp2_with (at_builtin;refine dM rfl _ _ 32 rfl hsl hte _ _ _ rfl rfl ?_)
  go_ret
  exact ⟨⟨_,rfl⟩,(Below.refl _ w).alloc (ξ _) _⟩
theorem CallSpec.emptyE {P:Program} {f:FuncId} (he:∀ (xs:Array Value) (w:World),(callFunc f xs).run P w = .ok (.enter f xs) w)
  (h:∀ (w:World) (p:Option Addr) (c:Nat),Calls P f #[.slice p 0 c] w fun e w'=>(∃ q,e = .returned (.slice q 0 0))/\Below w.heap.size w w') (sz:Nat) (get:Nat -> List AV):CallSpec P f [.isl 0 sz get] [] .emp []:=by
 refine ⟨he,fun id ob h=>(by cases h),fun id ob h=>(by cases h),fun w ρ Im xs hm hx=>?_⟩
 obtain ⟨p,c,rfl⟩:∃ p c,xs = #[.slice p 0 c]:=by
  obtain ⟨h1,h2⟩:=hx
  obtain ⟨x,rfl⟩:∃ x,xs = #[x]:=by
   obtain ⟨l⟩:=xs
   match l,h1 with
   | [x],_=>exact ⟨x,rfl⟩
  have h3:=h2 0 _ x rfl rfl
  rcases h3.isl_inv with ⟨_,p,rfl⟩ | ⟨b,off,cap,arr,T,fr,rfl,_⟩
  ·exact ⟨p,0,rfl⟩
  ·exact ⟨_,cap,rfl⟩
 refine (h w p c).mono fun e w' hb=>?_
 obtain ⟨⟨q,rfl⟩,hb⟩:=hb
 refine ⟨_,ρ,Im,rfl,.imm _ _ (.emp q),fun i hi=>(by cases hi),?_⟩
 refine ⟨fun id ob h=>(by cases h),fun id ob b h=>(by cases h),fun id id' ob ob' b h=>(by cases h),fun id ob h=>(by cases h),fun b hI=>Nat.lt_of_lt_of_le (hm.imlt b hI) hb.size,fun _ h=>h,fun _ h=>.inl h,
  hb.os,hb.tape,hb.output,hb.size,fun b hlt _=>hb.block b hlt,fun id h=>(by cases h),fun l r h=>⟨r.state,r.pending,?_⟩,fun l h=>(by cases h)⟩
 have hl:l < w.heap.size:=(Array.getElem?_eq_some_iff.1 h).1
 rw [hb.block l hl]
 exact h
theorem ym:q0d 64 [slc 10 Prom.cells default []] .emp:=CallSpec.emptyE (rg func64 rfl (by kernel_rfl)) yl 10 _
def pArr (l:List Prom):LObj:=.arr l.length 10 (fun i=>Prom.cells (l.getD i default)) 47
theorem vg (l:List Prom) (id:Nat):∀ q ∈ [(id,pArr l)],obCl ([(id,pArr l)].map (·.1)) q.2:=fun q hq=>by
 rw [List.mem_singleton.1 hq]
 exact fun i _=>rfl
theorem kS (l:List Prom) (hl:1 <= l.length/\l.length <= 1000000):q0c 64 [slc 10 Prom.cells default l] [] (.osl 850 l.length) [(850,pArr l)]:=by
 refine opG func64 ntmps64 results64 (fun w0 Im0 ρ0=>?_) (hcl:=⟨rfl,rfl,rfl,by simp,vg l 850,rfl⟩)
 repeat' (first|refine' fW|(refine bn [] [] [(850,7)] [(2,.osl 850 l.length)] [(850,some (pArr l))] ⟨⟨rfl,rfl⟩,?_,?_⟩ (eO ?_ ?_)))
 all_goals try omega
 ·skip
  all_goals ((refine' subP)<;>first|exact q0b ω fun i hi=>rfl|exact Θ (congrArg (AV.osl 7) ω)|exact sq1)
 ·skip
  all_goals ((refine' subP)<;>first|exact Θ (congrArg (AV.osl 7) ω)|exact q0b ω fun i hi=>rfl|exact sq1)
 ·exact Ψ
 ·rfl
 ·exact ⟨ω,AG ω (fun _ _=>rfl)⟩
open Go.Proofs
theorem AQ {n sz:Nat} {g g':Nat -> List AV} {T:Nat} (h:∀ i,i < n -> AvsLe (g i) (g' i)):ObLe (.arr n sz g T) (.arr n sz g' T):=by
 refine ⟨_root_.rfl,fun ρ Im H id hc=>?_⟩
 cases hc with
 | arr0 _ _ _ h1=>exact .arr0 _ _ _ h1
 | arr _ _ _ _ b xs h1 h2 h3 h4 h5 h6 h7 h8=>
  refine .arr _ _ _ _ b xs h1 h2 h3 h4 h5 h6 (fun i hi=>by rw [<- (h i hi).length];exact h7 i hi) fun i j c x hi hj hx=>?_
  obtain ⟨u,hu,hle⟩:=(h i hi).get j c hj
  exact hle.con _ _ _ _ (h8 i j u x hi hu hx)
theorem yn {l:List Prom} {i k:Nat} (hi:i < l.length) (hk:k < l.length - 1):(l.eraseIdx i ++ [default]).getD k default = l.getD (if k < i then k else k + 1) default:=by
 have hl:(l.eraseIdx i).length = l.length - 1:=by rw [List.length_eraseIdx,if_pos hi]
 rw [ψ,ψ,List.getElem?_append_left ω,List.getElem?_eraseIdx]
 split<;>rfl
theorem vj {l:List Prom} {i k:Nat} (hi:i < l.length) (hk:k = l.length - 1):(l.eraseIdx i ++ [default]).getD k default = default:=by
 have hl:(l.eraseIdx i).length = l.length - 1:=by rw [List.length_eraseIdx,if_pos hi]
 rw [ψ,List.getElem?_append_right ω,hl,hk,Nat.sub_self]
 rfl
theorem nA {l:List Prom} {i:Nat} (hi:i < l.length):(l.eraseIdx i ++ [default]).length = l.length:=by
 rw [List.length_append,List.length_eraseIdx,if_pos hi];simp;omega
theorem vk:∀ {us:List AV},AvsLe us us
 | []=>.nil
 | _ :: _=>.cons Ψ vk
theorem AR:AvsLe ti47.zero (Prom.cells default):=.cons Ψ (.cons AvLe.nils (.cons Ψ (.cons Ψ (.cons Ψ (.cons AvLe.nils (.cons Ψ (.cons Ψ (.cons Ψ (.cons Ψ .nil)))))))))
theorem AS {l:List Prom} {i k:Nat} (hi:i < l.length) (hk:k < l.length) :
  AvsLe (bif Nat.beq k (((((i:Int).toNat + (l.length - ((i:Int) + 1).toNat):Nat)):Int)).toNat then ti47.zero else bif Nat.blt k (i:Int).toNat then (l.getD k default).cells else bif Nat.blt k ((i:Int).toNat + (l.length - ((i:Int) + 1).toNat)) then (l.getD (((i:Int) + 1).toNat + (k - (i:Int).toNat)) default).cells else (l.getD k default).cells) ((l.eraseIdx i ++ [default]).getD k default).cells:=by
 have e1:(((((i:Int).toNat + (l.length - ((i:Int) + 1).toNat):Nat)):Int)).toNat = l.length - 1:=ω
 have e2:(i:Int).toNat + (l.length - ((i:Int) + 1).toNat) = l.length - 1:=ω
 rw [e1,e2]
 by_cases hk1:k = l.length - 1
 ·rw [vj hi hk1,hk1,Nat.beq_refl]
  exact AR
 ·rw [show Nat.beq k (l.length - 1) = false from Bool.eq_false_iff.mpr fun h=>hk1 (Nat.eq_of_beq_eq_true h),yn hi ω]
  show AvsLe (bif Nat.blt k (i:Int).toNat then _ else _) _
  rw [χ]
  by_cases h:k < i
  ·rw [Nat.blt_eq.mpr h,if_pos h]
   exact vk
  ·rw [show Nat.blt k i = false from Bool.eq_false_iff.mpr fun h'=>h (Nat.blt_eq.mp h'),if_neg h,Nat.blt_eq.mpr (ω:k < l.length - 1),(ω:((i:Int) + 1).toNat + (k - i) = k + 1)]
   exact vk
theorem E9 (l:List Prom) (hl:l.length <= 1000000) (i:Nat) (hi:i < l.length) :
  q0c 69 [.osl 850 l.length,.int .i64 i,.int .i64 (i + 1)] [(850,pArr l)] (.osl 850 (l.length - 1)) [(850,pArr (l.eraseIdx i ++ [default]))]:=by
 refine opG func69 ntmps69 results69 (fun w0 Im0 ρ0=>?_) (hcl:=⟨rfl,rfl,rfl,vg l 850,vg _ 850,rfl⟩)
 repeat' (first|(refine aa (fun hb=>?_) (fun hb=>?_);conv=>whnf)|refine' fW|(refine bn [] [] [] [(6,.osl 850 (l.length - 1))] [(850,some (pArr (l.eraseIdx i ++ [default])))] ⟨⟨rfl,rfl⟩,?_,?_⟩ (eO ?_ ?_)))
 all_goals try exact ariB
 ·skip
  all_goals ((refine' subP)<;>first|exact Θ (congrArg (AV.osl 850) ω)|(unfold pArr;rw [nA hi];exact AQ fun k hk=>AS hi hk)|exact sq1)
 ·skip
  all_goals ((refine' subP)<;>first|exact Θ (congrArg (AV.osl 850) ω)|(unfold pArr;rw [nA hi];exact AQ fun k hk=>AS hi hk)|exact sq1)
 ·exact Ψ
 ·rfl
 ·exact ⟨⟨ω,ω,ω⟩,fun k hk=>rfl⟩
theorem vn (x:Prom) (s:ByteArray):q0c 111 [x.av,.lptr 3 0] [(3,.box [.str s])] (.bool (x.flow.name.toList == s.toList)) [(3,.box [.str s])]:=by
 refine opG func111 ntmps111 results111 (fun w0 Im0 ρ0=>?_) (hcl:=⟨rfl,rfl,rfl,aF rfl,aF rfl,rfl⟩)
 repeat' (first|refine' cW | fail)
 all_goals first|exact Ψ|rfl
def yo (l:List Prom) (s:ByteArray) (r:Int):Prop :=
 (r = -1/\∀ i,i < l.length -> ((l.getD i default).flow.name.toList == s.toList) = false) \/
 ∃ k:Nat,r = k/\k < l.length/\((l.getD k default).flow.name.toList == s.toList) = true/\∀ i,i < k -> ((l.getD i default).flow.name.toList == s.toList) = false
set_option maxHeartbeats 1000000 in
theorem tm (l:List Prom) (s:ByteArray) (hl:l.length <= 1000000) :
  ∃ r,yo l s r/\q0c 110 [slc 10 Prom.cells default l,.fn 111 [.lptr 3 0]] [(3,.box [.str s])] (.int .i64 r) [(3,.box [.str s])]:=by
 have hcl:∀ q ∈ [(3,LObj.box [.str s])],obCl ([(3,LObj.box [.str s])].map (·.1)) q.2:=aF rfl
 refine opE func110 ntmps110 results110 ?_ (hcl:=⟨rfl,rfl,hcl⟩) (hco:=fun x=>⟨rfl,hcl,rfl⟩)
 repeat' (first|refine' ag | fail)
 refine ae (ι:={j:Nat // j <= l.length/\∀ i,i < j -> ((l.getD i default).flow.name.toList == s.toList) = false}) [0,1,7] [3] [] ⟨0,π _,fun i hi=>ω⟩ (fun ⟨j,_⟩=>l.length - j) (fun ⟨j,_⟩=>[(8,.int .i64 j)]) (fun ⟨j,_⟩=>[]) ?_ ?_
 ·exact ⟨⟨rfl,rfl⟩,sq1,sq1⟩
 ·rintro ⟨j,hj,hn⟩
  conv=>whnf
  by_cases hjl:(j:Int) < l.length
  ·have p1:=vn (l.getD (j:Int).toNat default) s
   rcases hb0:(l.getD j default).flow.name.toList == s.toList with _ | _
   ·have hb1:((l.getD (j:Int).toNat default).flow.name.toList == s.toList) = false:=hb0
    rw [hb1] at p1
    repeat' (first|(refine aa (fun hb=>?_) (fun hb=>absurd hjl hb);conv=>whnf)|(exact aB [] ⟨j + 1,ω,fun i hi=>(ζ i j).elim (fun h=>hn i h) (fun h=>by have e:i = j:=ω;rw [e];exact hb0)⟩)|refine' ag|(refine aG p1 ?_))
    all_goals try exact ariB
   ·have hb1:((l.getD (j:Int).toNat default).flow.name.toList == s.toList) = true:=hb0
    rw [hb1] at p1
    repeat' (first|(refine aa (fun hb=>?_) (fun hb=>absurd hjl hb);conv=>whnf)|refine' ag|(refine aG p1 ?_))
    all_goals try exact ariB
    exact aR ⟨(j:Int),rfl,⟨rfl,trivial⟩,.inr ⟨j,rfl,ω,hb0,hn⟩⟩
  ·have ej:j = l.length:=ω
   subst ej
   repeat' (first|(refine aa (fun hb=>absurd hb hjl) (fun hb=>?_);conv=>whnf)|refine' ag | fail)
   exact aR ⟨(-1:Int),rfl,⟨rfl,trivial⟩,.inl ⟨rfl,hn⟩⟩
theorem nC (p:Plan) (s:ByteArray) (hl:p.proms.length <= 1000000):∃ r,yo p.proms s r/\q0d 68 [p.av,.str s] (.int .i64 r):=by
 obtain ⟨r,hr,p1⟩:=tm p.proms s hl
 refine ⟨r,hr,?_⟩
 refine opG func68 ntmps68 results68 fun w0 Im0 ρ0=>?_
 repeat' (first|refine' aj|(refine aG p1 ?_))
 all_goals first|exact Ψ|rfl
end Go.Nc