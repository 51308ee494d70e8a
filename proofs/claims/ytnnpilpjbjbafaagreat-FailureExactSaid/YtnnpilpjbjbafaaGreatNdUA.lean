/- Parts. -/
import Derived.Test.YtnnpilpjbjbafaaGreatNdEB
import Derived.Test.YtnnpilpjbjbafaaGreatNdJC
namespace Go.Nc
open Go.Proofs.Tryz
open Go.Proofs
set_option maxHeartbeats 8000000
theorem Bd {ids:List Nat} {yid:Nat} (h:yid ∈ ids):nmV ids (.yld yid) = true:=by
 unfold nmV
 exact List.elem_eq_true_of_mem h
theorem iE {pid:List Nat} {nt:Nat} {A:St} {env:List (Nat × AV)} {L:List (Nat × LObj)} (ids:List Nat) (hL:L.map (·.1) = ids) (hp:∀ i ∈ pid,i ∈ ids) (ho:∀ p ∈ L,luB A.objs p.1 = some p.2) (hcl:∀ p ∈ L,obCl ids p.2) (he:vC A.env ids env):bF pid nt A ⟨env,aN L⟩:=by
 subst hL
 exact vD hp ho hcl he
section
variable {σ:Type} {ids:List Nat} {O:σ -> List (Nat × LObj)}
theorem Fam.ghost0 (hf:Fam ids O) {nt:Nat} {A:St} {env:List (Nat × AV)} (s:σ) (ho:∀ p ∈ O s,luB A.objs p.1 = some p.2) (he:vC A.env ids env):bF ids nt A ⟨env,aN (O s)⟩ :=
 iE ids (hf.same s) (fun _ h=>h) ho (hf.cl s) he
theorem Fam.ghost1 (hf:Fam ids O) {nt:Nat} {A:St} {env:List (Nat × AV)} (k:Nat) (ob:LObj) (s:σ) (hk:luB A.objs k = some ob) (hc:obCl (k :: ids) ob) (ho:∀ p ∈ O s,luB A.objs p.1 = some p.2) (he:vC A.env (k :: ids) env):bF ids nt A ⟨env,(k,some ob) :: aN (O s)⟩:=by
 refine iE (L:=(k,ob) :: O s) (k :: ids) (by rw [List.map_cons,hf.same]) (fun i hi=>by simp [hi]) (fun p hp=>?_) (fun p hp=>?_) he
 ·rcases List.mem_cons.1 hp with rfl | hp
  ·exact hk
  ·exact ho p hp
 ·rcases List.mem_cons.1 hp with rfl | hp
  ·exact hc
  ·exact fI (fun i hi=>by simp [hi]) (hf.cl s p hp)
theorem Fam.at1 (hf:Fam ids O) {k:Nat} (hk:k ∉ ids) (x:Option LObj) (s:σ) {B:List (Nat × Option LObj)} (h:∀ p ∈ O s,luB B p.1 = some p.2):∀ p ∈ O s,luB ((k,x) :: B) p.1 = some p.2:=fun p hp=>by
 rw [fB,if_neg fun e=>hk (by rw [<- e,<- hf.same s];exact List.mem_map.2 ⟨p,hp,rfl⟩)]
 exact h p hp
theorem Fam.at0 (hf:Fam ids O) (s:σ):∀ p ∈ O s,luB (aN (O s)) p.1 = some p.2:=fun p hp=>by rw [iD,hf.lu s p hp]
end
theorem Be {σ:Type} {ids:List Nat} {O:σ -> List (Nat × LObj)} (hf:Fam ids O) (hid:∀ i ∈ ids,800 <= i) (yid:Nat) (hy:yid ∈ ids) (n:Net) (h:NetOk n) (I:Nat -> Nat -> σ -> Prop) (E:σ -> Prop)
  (hyield:∀ (i c:Nat) (s:σ),i < n.lines.length -> (c:Int) < (n.lines.getD i default).classes -> au n i c ≠ [] -> I i c s -> ∃ b outs,(∃ s',outs = O s'/\(b = true -> I i (c + 1) s')/\(b = false -> E s'))/\YSpec prog yid [J i,J c] (O s) b outs)
  (hskip:∀ (i c:Nat) (s:σ),i < n.lines.length -> (c:Int) < (n.lines.getD i default).classes -> au n i c = [] -> I i c s -> I i (c + 1) s)
  (hrow:∀ (i c:Nat) (s:σ),i < n.lines.length -> ¬ (c:Int) < (n.lines.getD i default).classes -> I i c s -> I (i + 1) 0 s)
  (hend:∀ (i:Nat) (s:σ),¬ i < n.lines.length -> I i 0 s -> E s) (s0:σ) (h0:I 0 0 s0) :
  ∃ s,E s/\q0c 151 [.yld yid,.ibox n.cells 0] (O s0) (.tup []) (O s):=by
 have hln:=h.len
 have hfl:=h.flen
 have n4:4 ∉ ids:=fun e=>by have:=hid 4 e;omega
 have f4:∀ s,luB (aN (O s)) 4 = none:=fun s=>by rw [iD];exact hf.free s n4
 have hyn:=Bd hy
 have hyn4:=Bd (List.mem_cons_of_mem 4 hy)
 refine opE func151 ntmps151 results151 ?_ (hcl:=⟨hf.liveB s0,by rw [hf.same];simp only [nmL,Bd hy];rfl,hf.clB s0⟩) (hco:=fun s=>⟨rfl,hf.clB s,List.all_eq_true.2 fun p hp=>List.elem_eq_true_of_mem (by rw [hf.same,<- hf.same s0];exact List.mem_map.2 ⟨p,hp,rfl⟩)⟩)
 rw [hf.same]
 repeat' (first|refine' ag | fail)
 all_goals try exact ariA
 refine iR (ι:={p:Nat × σ // p.1 <= n.lines.length/\I p.1 0 p.2}) (fun ⟨(i,s),_⟩=>⟨[(0,.yld yid),(1,.ibox n.cells 0),(7,slc 5 Line.cells default n.lines),(8,J n.lines.length),(9,J i)],(4,none) :: aN (O s)⟩) (fun ⟨(i,_),_⟩=>n.lines.length - i) ⟨(0,s0),π _,h0⟩ ?_ ?_
 ·refine (hf.ghost0 s0 (hf.at0 s0) ?_).trans (nv (f4 s0))
  exact ⟨⟨hyn,Ψ⟩,⟨rfl,Ψ⟩,⟨rfl,Ψ⟩,⟨rfl,Ψ⟩,⟨rfl,Ψ⟩,trivial⟩
 rintro ⟨⟨i,s⟩,hi,hI⟩
 dsimp only at hi hI
 conv=>whnf
 by_cases hil:(i:Int) < n.lines.length
 ·skip
  repeat' (first|(refine Ω hil ?_)|refine' ag | fail)
  all_goals try exact ariA
  refine iR (ι:={p:Nat × σ // (p.1:Int) <= max 0 (n.lines.getD i default).classes/\I i p.1 p.2}) (fun ⟨(c,s),_⟩=>⟨[(0,.yld yid),(1,.ibox n.cells 0),(3,J i),(7,slc 5 Line.cells default n.lines),(8,J n.lines.length),(9,J i),(15,J (n.lines.getD i default).classes),(16,J c)],(4,some (.box (n.lines.getD i default).cells)) :: aN (O s)⟩) (fun ⟨(c,_),_⟩=>(n.lines.getD i default).classes.toNat - c) ⟨(0,s),κ,hI⟩ ?_ ?_
  ·refine hf.ghost1 4 _ s ?_ ?_ ?_ ?_
   ·rfl
   ·rfl
   ·exact hf.at1 n4 _ s (hf.at1 n4 _ s (hf.at1 n4 _ s (hf.at0 s)))
   ·exact ⟨⟨hyn4,Ψ⟩,⟨rfl,Ψ⟩,⟨rfl,Ψ⟩,⟨rfl,Ψ⟩,⟨rfl,Ψ⟩,⟨rfl,Ψ⟩,⟨rfl,Ψ⟩,⟨rfl,Ψ⟩,trivial⟩
  rintro ⟨⟨c,s⟩,hc,hI⟩
  dsimp only at hc hI
  have hc6:=(h.line (n.lines.getD i default) (by rw [ψ,β ω];exact List.getElem_mem _)).cls
  conv=>whnf
  by_cases hcl:(c:Int) < (n.lines.getD i default).classes
  ·have pm:=fC n i c ω (fun j hj=>by have:=(h.flow _ (List.getElem_mem hj)).ne;rw [ψ,β hj];dsimp only [Option.getD_some];omega)
   by_cases hm:au n i c = []
   ·have hm0:¬ 0 < ((au n i c).length:Int):=by rw [hm];decide
    repeat' (first|(refine ε hm0 ?_)|(refine Ω hcl ?_)|refine' ag|(refine ab pm ?_))
    all_goals try exact ariA
    refine ⟨⟨(c + 1,s),κ,hskip i c s ω hcl hm hI⟩,hf.ghost1 4 _ s rfl rfl (hf.at1 n4 _ s (hf.at0 s)) ?_,κ⟩
    exact ⟨⟨hyn4,Ψ⟩,⟨rfl,Ψ⟩,⟨rfl,Ψ⟩,⟨rfl,Ψ⟩,⟨rfl,Ψ⟩,⟨rfl,Ψ⟩,⟨rfl,Ψ⟩,⟨rfl,Ψ⟩,trivial⟩
   ·have hm0:0 < ((au n i c).length:Int):=by
     rcases hl:au n i c with _ | ⟨x,l⟩
     ·exact absurd hl hm
     ·simp only [List.length_cons];omega
    obtain ⟨b,outs,⟨s',rfl,ht,hff⟩,hY⟩:=hyield i c s ω hcl hm hI
    repeat' (first|(refine Ω hm0 ?_)|(refine Ω hcl ?_)|refine' ag|(refine ab pm ?_))
    all_goals try exact ariA
    refine vYield.mk ⟨b,O s,O s',hY,dF (hf.at1 n4 _ s (hf.at0 s)),hf.outs hf s s' _,?_⟩
    refine wZ ?_
    have hat:∀ p ∈ O s',luB (aN (O s') ++ (4,some (LObj.box (n.lines.getD i default).cells)) :: aN (O s)) p.1 = some p.2:=hf.luBA s' _
    have h4:luB (aN (O s') ++ (4,some (LObj.box (n.lines.getD i default).cells)) :: aN (O s)) 4 = some (LObj.box (n.lines.getD i default).cells):=by
     rw [nu,hf.free s' n4]
     rfl
    cases b with
    | true=>
     repeat' (first|refine' ag | fail)
     all_goals try exact ariA
     refine ⟨⟨(c + 1,s'),κ,ht rfl⟩,hf.ghost1 4 _ s' h4 rfl hat ?_,κ⟩
     exact ⟨⟨hyn4,Ψ⟩,⟨rfl,Ψ⟩,⟨rfl,Ψ⟩,⟨rfl,Ψ⟩,⟨rfl,Ψ⟩,⟨rfl,Ψ⟩,⟨rfl,Ψ⟩,⟨rfl,Ψ⟩,trivial⟩
    | false=>
     repeat' (first|refine' ag | fail)
     exact ⟨s',hff rfl,fun w0 Im0 ρ0=>⟨_,Ghost.rfl,Ψ,dF hat⟩⟩
  ·skip
   repeat' (first|(refine ε hcl ?_)|refine' ag | fail)
   all_goals try exact ariA
   refine ⟨⟨(i + 1,s),κ,hrow i c s ω hcl hI⟩,(hf.ghost0 s (hf.at1 n4 _ s (hf.at0 s)) ?_).trans (nv (f4 s)),κ⟩
   exact ⟨⟨hyn,Ψ⟩,⟨rfl,Ψ⟩,⟨rfl,Ψ⟩,⟨rfl,Ψ⟩,⟨rfl,Ψ⟩,trivial⟩
 ·skip
  repeat' (first|(refine ε hil ?_)|refine' ag | fail)
  exact ⟨s,hend i s ω hI,fun w0 Im0 ρ0=>⟨_,Ghost.rfl,Ψ,dF (hf.at1 n4 none s (hf.at0 s))⟩⟩
theorem yC {σ:Type} {ids ids':List Nat} {R:σ -> List (Nat × LObj)} {O:List (List Int) × σ -> List (Nat × LObj)} (hf:Fam ids R) (hf':Fam ids' O) (h9:899 ∉ ids) (hO:∀ x p,p ∈ O x ↔ p = (899,.box [ay x.1]) \/ p ∈ R x.2) (yid:Nat) (hy:yid ∈ ids) (n:Net)
  (N:Nat) (D:Nat -> List (List Int)) (hstep:∀ k,k < N -> q0d 142 [n.av,ay (D k)] (.tup [ay (D (k + 1)),J 0])) (I:Nat -> σ -> Prop) (E:σ -> Prop)
  (hyield:∀ (k:Nat) (s:σ),k < N -> I k s -> ∃ b outs,(∃ s',outs = R s'/\(b = true -> k + 1 < N/\I (k + 1) s')/\(b = false -> E s'))/\YSpec prog yid [ay (D (k + 1)),J 0] (R s) b outs)
  (s0:σ) (h0:I 0 s0) (hN:0 < N):∃ x:List (List Int) × σ,E x.2/\q0c 150 [.yld yid,.ibox n.cells 0,.lptr 899 0] (O (D 0,s0)) (.tup []) (O x):=by
 have i9:∀ i,i ∈ ids' ↔ i = 899 \/ i ∈ ids:=fun i=>by
  rw [<- hf'.same (D 0,s0),<- hf.same s0]
  simp only [List.mem_map,hO]
  constructor
  ·rintro ⟨p,rfl | hp,rfl⟩
   ·exact .inl rfl
   ·exact .inr ⟨p,hp,rfl⟩
  ·rintro (rfl | ⟨p,hp,rfl⟩)
   ·exact ⟨_,.inl rfl,rfl⟩
   ·exact ⟨p,.inr hp,rfl⟩
 have hp9:nmV ids' (.lptr 899 0) = true:=by
  unfold nmV
  exact List.elem_eq_true_of_mem ((i9 899).2 (.inl rfl))
 have hyn:=Bd (List.mem_cons_of_mem 899 hy)
 have view:∀ {A:St} {env:List (Nat × AV)} (d:List (List Int)) (s:σ),luB A.objs 899 = some (.box [ay d]) -> (∀ p ∈ R s,luB A.objs p.1 = some p.2) -> vC A.env (899 :: ids) env -> bF ids' 22 A ⟨env,(899,some (.box [ay d])) :: aN (R s)⟩:=fun d s h1 h2 h3=>by
  refine iE (L:=(899,.box [ay d]) :: R s) (899 :: ids) (by rw [List.map_cons,hf.same]) (fun i hi=>?_) (fun p hp=>?_) (fun p hp=>?_) h3
  ·rcases (i9 i).1 hi with rfl | hi
   ·exact List.mem_cons_self
   ·exact List.mem_cons_of_mem _ hi
  ·rcases List.mem_cons.1 hp with rfl | hp
   ·exact h1
   ·exact h2 p hp
  ·rcases List.mem_cons.1 hp with rfl | hp
   ·rfl
   ·exact fI (fun i hi=>List.mem_cons_of_mem _ hi) (hf.cl s p hp)
 refine opE func150 ntmps150 results150 ?_ (hcl:=⟨hf'.liveB _,by rw [hf'.same];simp only [nmL,Bd ((i9 yid).2 (.inr hy)),hp9];rfl,hf'.clB _⟩) (hco:=fun x=>⟨rfl,hf'.clB x,List.all_eq_true.2 fun p hp=>List.elem_eq_true_of_mem (by rw [hf'.same,<- hf'.same (D 0,s0)];exact List.mem_map.2 ⟨p,hp,rfl⟩)⟩)
 rw [hf'.same]
 refine aD (view (env:=[(0,.yld yid),(1,.ibox n.cells 0),(2,.lptr 899 0)]) (D 0) s0 ?_ ?_ ?_) ?_
 ·rw [iD]
  exact hf'.lu _ (899,.box [ay (D 0)]) ((hO _ _).2 (.inl rfl))
 ·intro p hp
  rw [iD]
  exact hf'.lu _ p ((hO _ _).2 (.inr hp))
 ·exact ⟨⟨hyn,Ψ⟩,⟨rfl,Ψ⟩,⟨rfl,Ψ⟩,trivial⟩
 repeat' (first|refine' ag | fail)
 refine iR (ι:={p:Nat × σ // p.1 < N/\I p.1 p.2}) (fun ⟨(k,s),_⟩=>⟨[(0,.yld yid),(1,.ibox n.cells 0),(2,.lptr 899 0)],(899,some (.box [ay (D k)])) :: aN (R s)⟩) (fun ⟨(k,_),_⟩=>N - k) ⟨(0,s0),hN,h0⟩ bF.rfl ?_
 rintro ⟨⟨k,s⟩,hk,hI⟩
 dsimp only at hk hI
 conv=>whnf
 obtain ⟨b,outs,⟨s',rfl,ht,hff⟩,hY⟩:=hyield k s hk hI
 have ps:=hstep k hk
 repeat' (first|refine' ag|(refine ab ps ?_))
 refine vYield.mk ⟨b,R s,R s',hY,dF (hf.at1 h9 _ s (hf.at0 s)),hf.outs hf s s' _,?_⟩
 refine wZ ?_
 have hat:∀ p ∈ R s',luB (aN (R s') ++ (899,some (LObj.box [ay (D k)])) :: aN (R s)) p.1 = some p.2:=hf.luBA s' _
 have h4:luB (aN (R s') ++ (899,some (LObj.box [ay (D k)])) :: aN (R s)) 899 = some (LObj.box [ay (D k)]):=by
  rw [nu,hf.free s' h9]
  rfl
 cases b with
 | true=>
  obtain ⟨hk1,hI1⟩:=ht rfl
  conv=>whnf
  refine gvE ?_;conv=>whnf
  refine gvE ?_;conv=>whnf
  refine aD (view (env:=[(0,.yld yid),(1,.ibox n.cells 0),(2,.lptr 899 0),(4,ay (D (k + 1)))]) (D k) s' h4 hat ⟨⟨hyn,Ψ⟩,⟨rfl,Ψ⟩,⟨rfl,Ψ⟩,⟨rfl,Ψ⟩,trivial⟩) ?_
  repeat' (first|refine' ag | fail)
  refine ⟨⟨(k + 1,s'),hk1,hI1⟩,view (D (k + 1)) s' rfl (hf.at1 h9 _ s' (hf.at1 h9 _ s' (hf.at0 s'))) ⟨⟨hyn,Ψ⟩,⟨rfl,Ψ⟩,⟨rfl,Ψ⟩,trivial⟩,κ⟩
 | false=>
  repeat' (first|refine' ag | fail)
  refine ⟨(D k,s'),hff rfl,fun w0 Im0 ρ0=>⟨_,Ghost.rfl,Ψ,dF fun p hp=>?_⟩⟩
  rcases (hO _ _).1 hp with rfl | hp
  ·exact h4
  ·exact hat p hp
theorem yD (n:Net) (d:List (List Int)):∃ _:Unit,True/\q0c 137 [n.av,ay d] [] (.fn 150 [.ibox n.cells 0,.lptr 899 0]) [(899,.box [ay d])]:=by
 refine opE func137 ntmps137 results137 ?_ (hcl:=⟨rfl,rfl,by simp⟩) (hco:=fun _=>⟨rfl,aP rfl,rfl⟩)
 repeat' (first|(refine aq [3] [3] [] [(2,.lptr 2 0)] [(2,some (.box n.cells))] ⟨⟨rfl,rfl⟩,sq1,sq1⟩ ?_;(conv=>whnf);(refine ao 2 rfl rfl rfl ?_ ?_ ?_;(solve | try refine' frzZ);(solve | try refine' frzZ));(conv=>whnf))|refine' ag | fail)
 refine aE [] [] [(899,3)] [(4,.fn 150 [.ibox n.cells 0,.lptr 899 0])] [(899,some (.box [ay d]))] ⟨⟨rfl,rfl⟩,?_,?_⟩ ?_
 ·skip
  all_goals exact sq1
 ·skip
  all_goals exact sq1
 conv=>whnf
 exact aH ⟨(),rfl,⟨rfl,trivial⟩,trivial⟩
theorem tA (n:Net):∃ _:Unit,True/\q0d 138 [n.av] (.fn 151 [.ibox n.cells 0]):=by
 refine opE func138 ntmps138 results138 ?_
 repeat' (first|refine' ag | fail)
 refine aE [2] [] [] [] [(1,some (.box n.cells))] ⟨⟨rfl,rfl⟩,?_,?_⟩ (aT 1 rfl rfl rfl ?_ ?_ (ac ?_))
 ·skip
  all_goals exact sq1
 ·skip
  all_goals exact sq1
 ·all_goals try refine' frzZ
 ·all_goals try refine' frzZ
 ·conv=>whnf
  exact ⟨(),rfl,trivial⟩
def recM (m:Option Code) (ks:List Nat) (cs:List AV) (ps:Array Tmp) (assign body:Code) (nt:Nat):LObj:=match m with
 | none=>.lrec .ready none ks cs ps assign body nt
 | some c=>.lrec .done (some c) ks cs ps assign body nt
section
variable {σ:Type} {lids:List Nat} {L:σ -> List (Nat × LObj)}
theorem Bf (hL:Fam lids L) {yid:Nat} (hy:yid ∉ lids) {ks:List Nat} {cs:List AV} {ps:Array Tmp} {assign body:Code} {nt:Nat} (hc:nmL (yid :: lids) cs = true):Fam (yid :: lids) (fun x:σ × Option Code=>(yid,recM x.2 ks cs ps assign body nt) :: L x.1):=by
 refine ⟨fun x=>by rw [List.map_cons,hL.same],List.nodup_cons.2 ⟨hy,hL.nd⟩,fun x p hp=>?_,fun x p hp=>?_⟩
 ·rcases List.mem_cons.1 hp with rfl | hp
  ·obtain ⟨s,m⟩:=x
   cases m<;>rfl
  ·exact hL.live _ p hp
 ·rcases List.mem_cons.1 hp with rfl | hp
  ·obtain ⟨s,m⟩:=x
   cases m<;>exact hc
  ·exact fI (fun i hi=>List.mem_cons_of_mem _ hi) (hL.cl _ p hp)
def xa (yid nt:Nat) (ks:List Nat) (cs:List AV) (ps:Array Tmp) (assign body:Code) (L:σ -> List (Nat × LObj)) (G:σ -> Prop) (E:Option Code -> σ -> Prop) (b:Bool) (outs:List (Nat × LObj)):Prop :=
 ∃ (s:σ) (m:Option Code),outs = (yid,recM m ks cs ps assign body nt) :: L s/\(b = true -> m = none/\G s)/\(b = false -> E m s)
theorem iX {pid:List Nat} (hL:Fam lids L) {yid nt:Nat} {ks:List Nat} {cs:List AV} {ps:Array Tmp} {assign body:Code} {G:σ -> Prop} {E:Option Code -> σ -> Prop} {B:St} (hpid:pid = yid :: lids) (hc:nmL (yid :: lids) cs = true) (s:σ) (hG:G s)
  (hy:luB B.objs yid = some (.lrec .busy none ks cs ps assign body nt)) (ho:∀ p ∈ L s,luB B.objs p.1 = some p.2):RFin pid nt yid ks ps assign body .ready none true (xa yid nt ks cs ps assign body L G E) B:=by
 subst hpid
 refine ⟨⟨B.env,B.objs⟩,cs,L s,bF.rfl,hy,dF ho,⟨fun p hp=>?_,?_⟩,s,none,rfl,fun _=>⟨rfl,hG⟩,fun h=>(by cases h)⟩
 ·rw [List.map_cons,hL.same]
  rcases List.mem_cons.1 hp with rfl | hp
  ·exact hc
  ·exact fI (fun i hi=>List.mem_cons_of_mem _ hi) (hL.cl _ p hp)
 ·rw [List.map_cons,hL.same]
  exact List.all_eq_true.2 fun i hi=>List.elem_eq_true_of_mem hi
theorem f0 {pid:List Nat} (hL:Fam lids L) {yid nt:Nat} {ks:List Nat} {cs:List AV} {ps:Array Tmp} {assign body:Code} {G:σ -> Prop} {E:Option Code -> σ -> Prop} {B:St} (hpid:pid = yid :: lids) (hc:nmL (yid :: lids) cs = true) (s:σ) (c:Code) (hE:E (some c) s)
  (hy:luB B.objs yid = some (.lrec .busy none ks cs ps assign body nt)) (ho:∀ p ∈ L s,luB B.objs p.1 = some p.2):RFin pid nt yid ks ps assign body .done (some c) false (xa yid nt ks cs ps assign body L G E) B:=by
 subst hpid
 refine ⟨⟨B.env,B.objs⟩,cs,L s,bF.rfl,hy,dF ho,⟨fun p hp=>?_,?_⟩,s,some c,rfl,fun h=>(by cases h),fun _=>hE⟩
 ·rw [List.map_cons,hL.same]
  rcases List.mem_cons.1 hp with rfl | hp
  ·exact hc
  ·exact fI (fun i hi=>List.mem_cons_of_mem _ hi) (hL.cl _ p hp)
 ·rw [List.map_cons,hL.same]
  exact List.all_eq_true.2 fun i hi=>List.elem_eq_true_of_mem hi
structure RangeOk (A:St) (pid:List Nat) (nt yid:Nat) (ks:List Nat) (cs:List AV) (ps:Array Tmp) (psl:List Nat) (lids:List Nat) (L0:List (Nat × LObj)):Prop where
 pse:ps.toList = psl
 plt:(psl.all fun p=>Nat.blt p nt) = true
 free:luB A.objs yid = none
 ins:dJ A.o L0
 len:ks.length = cs.length
 env:∀ (i k:Nat) (c:AV),ks[i]? = some k -> cs[i]? = some c -> luS A.env k = some c
 cl:nmL (yid :: lids) cs = true
 hi:∀ i ∈ yid :: lids,800 <= i
 nin:yid ∉ lids
theorem Bg {A:St} {nt yid:Nat} {ks:List Nat} {cs:List AV} {ps:Array Tmp} {assign body:Code} (hL:Fam lids L) (s0 s:σ) (m:Option Code) {K:Exit -> St -> Prop}
  (h:Bc m K ⟨zipE ks cs,(yid,some .dead) :: (aN (L s) ++ A.objs)⟩):RangeK A yid nt ks ps assign body (L s0) ((yid,recM m ks cs ps assign body nt) :: L s) K:=by
 cases m with
 | none=>exact ⟨.ready,none,cs,L s,rfl,(by intro e;cases e),hL.outs hL s0 s _,h⟩
 | some c=>exact ⟨.done,some c,cs,L s,rfl,(by intro e;cases e),hL.outs hL s0 s _,h⟩
theorem kV {pid:List Nat} {nt:Nat} {A:St} {g:Operand} {ps:Array Tmp} {assign body:Code} {K:Exit -> St -> Prop} (yid:Nat) (n:Net) (h:NetOk n) (hg:opdV A.s g = some (.fn 151 [.ibox n.cells 0])) (ks:List Nat) (cs:List AV) (psl:List Nat) (hpl:psl.length = 2)
  (hL:Fam lids L) (s0:σ) (hok:RangeOk A pid nt yid ks cs ps psl lids (L s0)) (I:Nat -> Nat -> σ -> Prop) (E:Option Code -> σ -> Prop)
  (hround:∀ (i c:Nat) (s:σ),i < n.lines.length -> (c:Int) < (n.lines.getD i default).classes -> au n i c ≠ [] -> I i c s ->
   GoodE prog (yid :: lids) nt assign ⟨parE psl [J i,J c] (zipE ks cs),(yid,some (.lrec .ready none ks cs ps assign body nt)) :: aN (L s)⟩ (asgE prog (yid :: lids) nt yid ks ps assign body (xa yid nt ks cs ps assign body L (I i (c + 1)) E)))
  (hskip:∀ (i c:Nat) (s:σ),i < n.lines.length -> (c:Int) < (n.lines.getD i default).classes -> au n i c = [] -> I i c s -> I i (c + 1) s)
  (hrow:∀ (i c:Nat) (s:σ),i < n.lines.length -> ¬ (c:Int) < (n.lines.getD i default).classes -> I i c s -> I (i + 1) 0 s)
  (hend:∀ (i:Nat) (s:σ),¬ i < n.lines.length -> I i 0 s -> E none s) (h0:I 0 0 s0)
  (hK:∀ m s,E m s -> Bc m K ⟨zipE ks cs,(yid,some .dead) :: (aN (L s) ++ A.objs)⟩):LoopE prog pid nt (.rangeFunc g ps assign body) A K:=by
 have hF:=Bf hL hok.nin (ks:=ks) (ps:=ps) (assign:=assign) (body:=body) (nt:=nt) hok.cl
 refine ns (α:=σ × Option Code) (r:=fun _=>.tup []) (outs:=fun x=>(yid,recM x.2 ks cs ps assign body nt) :: L x.1) (Q:=fun x=>E x.2 x.1) yid hg hok.free (L s0) hok.ins ks cs hok.len hok.env ?_ fun x hx=>Bg hL s0 x.1 x.2 (hK x.2 x.1 hx)
 refine Be hF hok.hi yid List.mem_cons_self n h (fun i c x=>x.2 = none/\I i c x.1) (fun x=>E x.2 x.1) (fun i c x hi hc hm hI=>?_) (fun i c x hi hc hm hI=>⟨hI.1,hskip i c x.1 hi hc hm hI.2⟩) (fun i c x hi hc hI=>⟨hI.1,hrow i c x.1 hi hc hI.2⟩)
  (fun i x hi hI=>by rw [hI.1];exact hend i x.1 hi hI.2) (s0,none) ⟨rfl,h0⟩
 obtain ⟨s,m⟩:=x
 obtain ⟨rfl,hI⟩:=hI
 have hr:=hround i c s hi hc hm hI
 rw [show yid :: lids = yid :: (L s).map (·.1) by rw [hL.same]] at hr
 obtain ⟨b,outs,⟨s',m',rfl,q1,q2⟩,hY⟩:=wX (cs:=cs) (L:=L s) hok.pse (by rw [hpl];rfl) hok.plt ⟨hL.liveB s,rfl,by rw [hL.same];exact hok.cl,fun p hp=>by rw [hL.same];exact fI (fun i hi=>List.mem_cons_of_mem _ hi) (hL.cl s p hp)⟩ hr
 exact ⟨b,_,⟨(s',m'),rfl,fun hb=>q1 hb,q2⟩,hY⟩
theorem vE {pid:List Nat} {nt:Nat} {A:St} {g:Operand} {ps:Array Tmp} {assign body:Code} {K:Exit -> St -> Prop} (yid:Nat) (n:Net) (hg:opdV A.s g = some (.fn 150 [.ibox n.cells 0,.lptr 899 0])) (ks:List Nat) (cs:List AV) (psl:List Nat) (hpl:psl.length = 2)
  (hL:Fam lids L) (s0:σ) (hok:RangeOk A pid nt yid ks cs ps psl lids (L s0)) (h9:899 ∉ yid :: lids) (N:Nat) (D:Nat -> List (List Int)) (hstep:∀ k,k < N -> q0d 142 [n.av,ay (D k)] (.tup [ay (D (k + 1)),J 0])) (h899:luB A.objs 899 = some (.box [ay (D 0)])) (I:Nat -> σ -> Prop) (E:Option Code -> σ -> Prop)
  (hround:∀ (k:Nat) (s:σ),k < N -> I k s ->
   GoodE prog (yid :: lids) nt assign ⟨parE psl [ay (D (k + 1)),J 0] (zipE ks cs),(yid,some (.lrec .ready none ks cs ps assign body nt)) :: aN (L s)⟩ (asgE prog (yid :: lids) nt yid ks ps assign body (xa yid nt ks cs ps assign body L (fun s'=>k + 1 < N/\I (k + 1) s') E)))
  (hN:0 < N) (h0:I 0 s0)
  (hK:∀ d m s,E m s -> Bc m K ⟨zipE ks cs,(yid,some .dead) :: (aN ((899,.box [ay d]) :: L s) ++ A.objs)⟩):LoopE prog pid nt (.rangeFunc g ps assign body) A K:=by
 have hF:=Bf hL hok.nin (ks:=ks) (ps:=ps) (assign:=assign) (body:=body) (nt:=nt) hok.cl
 have h9l:899 ∉ lids:=fun e=>h9 (List.mem_cons_of_mem _ e)
 have hy9:yid ≠ 899:=fun e=>h9 (by rw [e];exact List.mem_cons_self)
 have hL9:Fam (899 :: lids) (fun x:List (List Int) × σ=>(899,.box [ay x.1]) :: L x.2):=by
  refine ⟨fun x=>by rw [List.map_cons,hL.same],List.nodup_cons.2 ⟨h9l,hL.nd⟩,fun x p hp=>?_,fun x p hp=>?_⟩
  ·rcases List.mem_cons.1 hp with rfl | hp
   ·rfl
   ·exact hL.live _ p hp
  ·rcases List.mem_cons.1 hp with rfl | hp
   ·rfl
   ·exact fI (fun i hi=>List.mem_cons_of_mem _ hi) (hL.cl _ p hp)
 have hF9:Fam (yid :: 899 :: lids) (fun x:List (List Int) × (σ × Option Code)=>(yid,recM x.2.2 ks cs ps assign body nt) :: (899,.box [ay x.1]) :: L x.2.1):=by
  have hq:=Bf hL9 (yid:=yid) (fun e=>by rcases List.mem_cons.1 e with e | e;exact hy9 e;exact hok.nin e) (ks:=ks) (ps:=ps) (assign:=assign) (body:=body) (nt:=nt) (nmL_sub (fun i hi=>by rcases List.mem_cons.1 hi with rfl | hi;exact List.mem_cons_self;exact List.mem_cons_of_mem _ (List.mem_cons_of_mem _ hi)) _ hok.cl)
  exact ⟨fun x=>hq.same ((x.1,x.2.1),x.2.2),hq.nd,fun x=>hq.live ((x.1,x.2.1),x.2.2),fun x=>hq.cl ((x.1,x.2.1),x.2.2)⟩
 refine ns (α:=List (List Int) × (σ × Option Code)) (r:=fun _=>.tup []) (outs:=fun x=>(yid,recM x.2.2 ks cs ps assign body nt) :: (899,.box [ay x.1]) :: L x.2.1) (Q:=fun x=>E x.2.2 x.2.1) yid hg hok.free ((899,.box [ay (D 0)]) :: L s0) ⟨h899,hok.ins⟩ ks cs hok.len hok.env ?_
  fun x hx=>Bg hL9 (D 0,s0) (x.1,x.2.1) x.2.2 (hK x.1 x.2.2 x.2.1 hx)
 refine yC hF hF9 h9 (fun x p=>?_) yid List.mem_cons_self n N D hstep (fun k x=>x.2 = none/\I k x.1) (fun x=>E x.2 x.1) (fun k x hk hI=>?_) (s0,none) ⟨rfl,h0⟩ hN
 ·simp only [List.mem_cons]
  constructor
  ·rintro (h | h | h)
   ·exact .inr (.inl h)
   ·exact .inl h
   ·exact .inr (.inr h)
  ·rintro (h | h | h)
   ·exact .inr (.inl h)
   ·exact .inl h
   ·exact .inr (.inr h)
 obtain ⟨s,m⟩:=x
 obtain ⟨rfl,hI⟩:=hI
 have hr:=hround k s hk hI
 rw [show yid :: lids = yid :: (L s).map (·.1) by rw [hL.same]] at hr
 obtain ⟨b,outs,⟨s',m',rfl,q1,q2⟩,hY⟩:=wX (cs:=cs) (L:=L s) hok.pse (by rw [hpl];rfl) hok.plt ⟨hL.liveB s,rfl,by rw [hL.same];exact hok.cl,fun p hp=>by rw [hL.same];exact fI (fun i hi=>List.mem_cons_of_mem _ hi) (hL.cl s p hp)⟩ hr
 exact ⟨b,_,⟨(s',m'),rfl,fun hb=>⟨(q1 hb).2.1,(q1 hb).1,(q1 hb).2.2⟩,q2⟩,hY⟩
end
def at2 (d:List (List Int)) (i c:Nat):Int:=(d.getD i []).getD c 0
def Used (n:Net) (P:Nat -> Nat -> Prop):Prop:=∀ i c:Nat,i < n.lines.length -> (c:Int) < (n.lines.getD i default).classes -> au n i c ≠ [] -> P i c
def bQ (n:Net) (P:Nat -> Nat -> Prop) (i c:Nat):Prop:=∀ a b:Nat,a < n.lines.length -> (b:Int) < (n.lines.getD a default).classes -> au n a b ≠ [] -> (a < i \/ a = i/\b < c) -> P a b
theorem bQ.zero (n:Net) (P:Nat -> Nat -> Prop):bQ n P 0 0:=fun a b _ _ _ h=>ω
theorem bQ.step {n:Net} {P:Nat -> Nat -> Prop} {i c:Nat} (h:bQ n P i c) (hp:P i c):bQ n P i (c + 1):=fun a b h1 h2 h3 h4=>by
 by_cases e:a = i/\b = c
 ·rw [e.1,e.2];exact hp
 ·exact h a b h1 h2 h3 ω
theorem bQ.skip {n:Net} {P:Nat -> Nat -> Prop} {i c:Nat} (h:bQ n P i c) (hm:au n i c = []):bQ n P i (c + 1):=fun a b h1 h2 h3 h4=>by
 by_cases e:a = i/\b = c
 ·rw [e.1,e.2,hm] at h3;exact absurd rfl h3
 ·exact h a b h1 h2 h3 ω
theorem bQ.row {n:Net} {P:Nat -> Nat -> Prop} {i c:Nat} (h:bQ n P i c) (hc:¬ (c:Int) < (n.lines.getD i default).classes):bQ n P (i + 1) 0:=fun a b h1 h2 h3 h4=>by
 refine h a b h1 h2 h3 ?_
 rcases ζ a i with h5 | h5
 ·exact .inl h5
 ·obtain rfl:a = i:=ω
  exact .inr ⟨rfl,ω⟩
theorem bQ.all {n:Net} {P:Nat -> Nat -> Prop} {i:Nat} (h:bQ n P i 0) (hi:¬ i < n.lines.length):Used n P:=fun a b h1 h2 h3=>h a b h1 h2 h3 ω
structure DimOk (n:Net) (d:List (List Int)):Prop where
 len:d.length = n.lines.length
 row:∀ i:Nat,i < n.lines.length -> ((d.getD i []).length:Int) = (n.lines.getD i default).classes
theorem ShapeOk.dim {n:Net} {d:List (List Int)} (h:ShapeOk n d):DimOk n d:=⟨h.len,h.row⟩
def ru (n:Net) (d e:List (List Int)):Prop:=Used n (fun i c=>0 <= at2 d i c)/\Used n (fun i c=>0 <= at2 e i c/\at2 e i c <= at2 d i c)
def proofR:Option (List (List Int)) -> AV
 | some e=>.tup [ay e,.bool true]
 | none=>.tup [.nils,.bool false]
def envOk (E:List (Nat × AV)):List Nat -> List AV -> Prop
 | [],[]=>True
 | k :: ks,c :: cs=>luS E k = some c/\envOk E ks cs
 | _,_=>False
theorem iF {E:List (Nat × AV)}:∀ {ks:List Nat} {cs:List AV},envOk E ks cs -> ∀ (i k:Nat) (c:AV),ks[i]? = some k -> cs[i]? = some c -> luS E k = some c
 | [],[],_,i,k,c,h,_=>by simp at h
 | [],_ :: _,h,_,_,_,_,_=>h.elim
 | _ :: _,[],h,_,_,_,_,_=>h.elim
 | k0 :: ks,c0 :: cs,h,0,k,c,h1,h2=>by cases h1;cases h2;exact h.1
 | k0 :: ks,c0 :: cs,h,i + 1,k,c,h1,h2=>iF h.2 i k c (by simpa using h1) (by simpa using h2)
theorem tB {B:List (Nat × Option LObj)} {a b:Nat} {x y:LObj} (h1:luB B a = some x) (h2:luB B b = some y):∀ p ∈ [(a,x),(b,y)],luB B p.1 = some p.2:=fun p hp=>by
 rcases List.mem_cons.1 hp with rfl | hp
 ·exact h1
 ·rw [List.mem_singleton.1 hp];exact h2
theorem fam2 (a b:Nat) (hab:a ≠ b) (x y:LObj) (hx:x.live = true) (hy:y.live = true) (cx:obCl [a,b] x) (cy:obCl [a,b] y):Fam [a,b] (fun _:Unit=>[(a,x),(b,y)]):=by
 refine ⟨fun _=>rfl,List.nodup_cons.2 ⟨by simpa using hab,List.nodup_cons.2 ⟨by simp,List.nodup_nil⟩⟩,fun _ p hp=>?_,fun _ p hp=>?_⟩
 ·rcases List.mem_cons.1 hp with rfl | hp
  ·exact hx
  ·rw [List.mem_singleton.1 hp];exact hy
 ·rcases List.mem_cons.1 hp with rfl | hp
  ·exact cx
  ·rw [List.mem_singleton.1 hp];exact cy
theorem Dy (n:Net) (d e:List (List Int)) (h:NetOk n) (hd:ShapeOk n d) (he:DimOk n e) (hstep:q0d 142 [n.av,ay d] (.tup [ay e,J 0])) :
  ∃ x:Option (List (List Int)),((x = some e/\ru n d e) \/ (x = none/\¬ ru n d e))/\q0d 114 [n.av,ay d] (proofR x):=by
 have p0:=cP n d h hd
 obtain ⟨_,_,p1⟩:=tA n
 have hf:=fam2 804 805 φ (.box [.nils]) (.box [.bool false]) rfl rfl rfl rfl
 refine opE func114 ntmps114 results114 ?_ (hcl:=⟨rfl,rfl,by simp⟩) (hco:=fun x=>⟨by cases x<;>rfl,by simp,rfl⟩)
 repeat' (first|(refine aq [] [] [(804,4),(805,5)] [(2,.lptr 2 0),(3,.lptr 3 0),(4,.lptr 804 0),(5,.lptr 805 0)] [(2,some (.box n.cells)),(3,some (.box [ay d])),(804,some (.box [.nils])),(805,some (.box [.bool false]))] ⟨⟨rfl,rfl⟩,sq1,sq1⟩ ?_;(conv=>whnf);(refine ao 2 rfl rfl rfl ?_ ?_ ?_;(solve | try refine' frzZ);(solve | try refine' frzZ));(conv=>whnf);(refine ao 3 rfl rfl rfl ?_ ?_ ?_;(solve | try refine' frzZ);(solve | try refine' frzZ));(conv=>whnf))|refine' ag|(refine ab p0 ?_)|(refine ab p1 ?_))
 refine kV 801 n h rfl [2,3,4,5] [.ibox n.cells 0,.ibox [ay d] 0,.lptr 804 0,.lptr 805 0] [18,19] rfl hf () ⟨rfl,rfl,rfl,⟨rfl,rfl,trivial⟩,rfl,iF ⟨rfl,rfl,rfl,rfl,trivial⟩,rfl,φ,φ⟩
  (fun i c _=>bQ n (fun i c=>0 <= at2 d i c) i c) (fun m _=>(m = none/\Used n (fun i c=>0 <= at2 d i c)) \/ (m = some .ret/\¬ Used n (fun i c=>0 <= at2 d i c)))
  (fun i c _ hi hc hm hI=>?_) (fun i c _ _ _ hm hI=>hI.skip hm) (fun i c _ _ hc hI=>hI.row hc) (fun i _ hi hI=>.inl ⟨rfl,hI.all hi⟩) (bQ.zero _ _) ?_
 ·have hl1:=hd.len
  have hl2:=hd.row i hi
  have ei:(i:Int).toNat = i:=rfl
  by_cases hp:at2 d i c < 0
  ·skip
   repeat' (first|(refine Ω hp ?_)|(refine Exists.intro _ (And.intro rfl ?_))|refine' ag | fail)
   all_goals try first|omega|(rw [ei];omega)
   exact f0 hf rfl rfl () .ret (.inr ⟨rfl,fun hu=>absurd (hu i c hi hc hm) ω⟩) rfl (tB rfl rfl)
  ·skip
   repeat' (first|(refine ε hp ?_)|(refine Exists.intro _ (And.intro rfl ?_))|refine' ag | fail)
   all_goals try first|omega|(rw [ei];omega)
   exact iX hf rfl rfl () (hI.step ω) rfl (tB rfl rfl)
 rintro m _ (⟨rfl,hu⟩ | ⟨rfl,hu⟩)
 ·conv=>whnf
  repeat' (first|(refine aq [2,3,4,5] [804,805] [] [(8,.lptr 8 0),(9,J 0)] [(8,some (.box [ay e]))] ⟨⟨rfl,rfl⟩,sq1,sq1⟩ ?_;(conv=>whnf);(refine ao 8 rfl rfl rfl ?_ ?_ ?_;(solve | try refine' frzZ);(solve | try refine' frzZ));(conv=>whnf))|refine' ag|(refine ab hstep ?_)|(refine ab p1 ?_))
  refine kV 802 n h rfl [2,3,4,5,8] [.ibox n.cells 0,.ibox [ay d] 0,.lptr 804 0,.lptr 805 0,.ibox [ay e] 0] [38,39] rfl hf () ⟨rfl,rfl,rfl,⟨rfl,rfl,trivial⟩,rfl,iF ⟨rfl,rfl,rfl,rfl,rfl,trivial⟩,rfl,φ,φ⟩
   (fun i c _=>bQ n (fun i c=>0 <= at2 e i c/\at2 e i c <= at2 d i c) i c) (fun m _=>(m = none/\Used n (fun i c=>0 <= at2 e i c/\at2 e i c <= at2 d i c)) \/ (m = some .ret/\¬ Used n (fun i c=>0 <= at2 e i c/\at2 e i c <= at2 d i c)))
   (fun i c _ hi hc hm hI=>?_) (fun i c _ _ _ hm hI=>hI.skip hm) (fun i c _ _ hc hI=>hI.row hc) (fun i _ hi hI=>.inl ⟨rfl,hI.all hi⟩) (bQ.zero _ _) ?_
  ·have hl1:=hd.len
   have hl2:=hd.row i hi
   have hl3:=he.len
   have hl4:=he.row i hi
   have ei:(i:Int).toNat = i:=rfl
   by_cases hp:at2 e i c < 0
   ·skip
    repeat' (first|(refine Ω hp ?_)|(refine Exists.intro _ (And.intro rfl ?_))|refine' ag | fail)
    all_goals try first|omega|(rw [ei];omega)
    exact f0 hf rfl rfl () .ret (.inr ⟨rfl,fun hu=>absurd (hu i c hi hc hm).1 ω⟩) rfl (tB rfl rfl)
   ·by_cases hq:at2 e i c > at2 d i c
    ·skip
     repeat' (first|(refine Ω hq ?_)|(refine ε hp ?_)|(refine Exists.intro _ (And.intro rfl ?_))|refine' ag | fail)
     all_goals try first|omega|(rw [ei];omega)
     exact f0 hf rfl rfl () .ret (.inr ⟨rfl,fun hu=>absurd (hu i c hi hc hm).2 ω⟩) rfl (tB rfl rfl)
    ·skip
     repeat' (first|(refine ε hq ?_)|(refine ε hp ?_)|(refine Exists.intro _ (And.intro rfl ?_))|refine' ag | fail)
     all_goals try first|omega|(rw [ei];omega)
     exact iX hf rfl rfl () (hI.step ⟨ω,ω⟩) rfl (tB rfl rfl)
  rintro m _ (⟨rfl,hu2⟩ | ⟨rfl,hu2⟩)
  ·conv=>whnf
   repeat' (first|refine' ag | fail)
   exact ac ⟨some e,rfl,.inl ⟨rfl,hu,hu2⟩⟩
  ·conv=>whnf
   exact ac ⟨none,rfl,.inr ⟨rfl,fun hc=>hu2 hc.2⟩⟩
 ·conv=>whnf
  exact ac ⟨none,rfl,.inr ⟨rfl,fun hc=>hu hc.1⟩⟩
theorem tC (n:Net) (d e:List (List Int)) (h:NetOk n) (hd:ShapeOk n d) (he:DimOk n e) (hstep:q0d 142 [n.av,ay d] (.tup [ay e,J 0])) :
  ∃ b:Bool,(b = true ↔ ru n d e)/\q0d 75 [n.av,ay d] (.bool b):=by
 have p0:=Dy n d e h hd he hstep
 refine opE func75 ntmps75 results75 ?_
 rcases p0 with ⟨x,(⟨rfl,hc⟩ | ⟨rfl,hc⟩),p0⟩
 ·skip
  repeat' (first|refine' bG|(refine ab p0 ?_))
  exact ⟨true,rfl,fun _=>hc,fun _=>rfl⟩
 ·skip
  repeat' (first|refine' bG|(refine ab p0 ?_))
  exact ⟨false,rfl,fun h=>(by cases h),fun h=>absurd h hc⟩
theorem dim_eq {n:Net} {d e:List (List Int)} (hd:DimOk n d) (he:DimOk n e) (h:∀ i j,i < d.length -> j < (d.getD i []).length -> at2 d i j = at2 e i j):d = e:=by
 refine List.ext_getElem (hd.len.trans he.len.symm) fun i h1 h2=>?_
 have e1:d.getD i [] = d[i]:=by simp [h1]
 have e2:e.getD i [] = e[i]:=by simp [h2]
 have hi:i < n.lines.length:=by rw [<- hd.len];exact h1
 have r1:=hd.row i hi
 have r2:=he.row i hi
 rw [<- e1,<- e2]
 refine List.ext_getElem ω fun j h3 h4=>?_
 have:=h i j h1 h3
 unfold at2 at this
 rw [ψ,ψ (l:=e.getD i []),β h3,β h4] at this
 exact this
theorem Dz (n:Net) (h:NetOk n) (d e:List (List Int)) (hd:DimOk n d) (he:DimOk n e):∃ b:Bool,(b = true ↔ d = e)/\q0d 139 [ay d,ay e] (.bool b):=by
 have hdl:=hd.len
 have hel:=he.len
 have hnl:=h.len
 have hcl:∀ i:Nat,i < n.lines.length -> (n.lines.getD i default).classes <= 6:=fun j hj=>(h.line _ (by simp [hj])).cls.2
 refine opE func139 ntmps139 results139 ?_
 repeat' (first|refine' ag | fail)
 all_goals try exact ariA
 refine ae (ι:={i:Nat // i <= d.length/\∀ a b:Nat,a < i -> b < (d.getD a []).length -> at2 d a b = at2 e a b}) [0,1,8] [] [] ⟨0,π _,fun a b ha=>ω⟩ (fun ⟨i,_⟩=>d.length - i) (fun ⟨i,_⟩=>[(9,J i)]) (fun _=>[]) ?_ ?_
 ·exact ⟨⟨rfl,rfl⟩,sq1,sq1⟩
 ·rintro ⟨i,hi,hI⟩
  conv=>whnf
  by_cases hil:(i:Int) < d.length
  ·have ei : (i:Int).toNat = i:=rfl
   have r1:=hd.row i ω
   have r2:=he.row i ω
   have r3:=hcl i ω
   obtain ⟨X,eX⟩:∃ X,X = d.getD i []:=⟨_,rfl⟩
   obtain ⟨Y,eY⟩:∃ Y,Y = e.getD i []:=⟨_,rfl⟩
   rw [<- eX] at r1
   rw [<- eY] at r2
   have eXn:d.getD (i:Int).toNat [] = X:=by rw [ei,eX]
   have eYn:e.getD (i:Int).toNat [] = Y:=by rw [ei,eY]
   repeat' (first|(refine aa (fun hb=>?_) (fun hb=>absurd hil hb);conv=>whnf)|refine' ag | fail)
   all_goals try first|exact ariA|(rw [eXn];unfold ah;omega)|(rw [eYn];unfold ah;omega)
   refine ae (ι:={j:Nat // j <= X.length/\∀ b:Nat,b < j -> at2 d i b = at2 e i b}) [0,1,5,8,9] [] [] ⟨0,π _,fun b hb=>ω⟩ (fun ⟨j,_⟩=>X.length - j) (fun ⟨j,_⟩=>[(16,J X.length),(17,J j)]) (fun _=>[]) ?_ ?_
   ·refine ⟨⟨rfl,rfl⟩,?_,?_⟩
    all_goals ((refine' subP)<;>first|exact Ξ (by rw [eXn])|exact sq1)
   ·rintro ⟨j,hj,hJ⟩
    conv=>whnf
    by_cases hjl:(j:Int) < X.length
    ·by_cases hne:(d.getD (i:Int).toNat []).getD (j:Int).toNat 0 = (e.getD (i:Int).toNat []).getD (j:Int).toNat 0
     ·have hJ':∀ b:Nat,b < j + 1 -> at2 d i b = at2 e i b:=fun b hb=>by
       rcases ζ b j with h1 | h1
       ·exact hJ b h1
       ·obtain rfl:b = j:=ω
        exact hne
      repeat' (first|(refine ak (fun hb=>absurd hne hb) (fun hb=>?_);conv=>whnf)|(refine aa (fun hb=>?_) (fun hb=>absurd hjl hb);conv=>whnf)|(exact a6 [] ⟨j + 1,ω,hJ'⟩)|refine' ag | fail)
      all_goals try first|exact ariA|(rw [eXn];omega)|(rw [eYn];omega)
     ·skip
      repeat' (first|(refine ak (fun hb=>?_) (fun hb=>absurd hb hne);conv=>whnf)|(refine aa (fun hb=>?_) (fun hb=>absurd hjl hb);conv=>whnf)|refine' ag | fail)
      all_goals try first|exact ariA|(rw [eXn];omega)|(rw [eYn];omega)
      all_goals exact ac ⟨false,rfl,fun h=>(by cases h),fun h=>absurd (by rw [h]) hne⟩
    ·have hI':∀ a b:Nat,a < i + 1 -> b < (d.getD a []).length -> at2 d a b = at2 e a b:=fun a b ha hq=>by
      rcases ζ a i with h1 | h1
      ·exact hI a b h1 hq
      ·have hai:a = i:=ω
       rw [hai]
       rw [hai,<- eX] at hq
       exact hJ b ω
     repeat' (first|(refine aa (fun hb=>absurd hb hjl) (fun hb=>?_);conv=>whnf)|(exact a6 [] ⟨i + 1,ω,hI'⟩)|refine' ag | fail)
     all_goals try exact ariA
  ·skip
   repeat' (first|(refine aa (fun hb=>absurd hb hil) (fun hb=>?_);conv=>whnf)|refine' ag | fail)
   exact ac ⟨true,rfl,fun _=>dim_eq hd he fun i j h1 h2=>hI i j ω h2,fun _=>rfl⟩
def resV:Option (List (List Int)) -> AV
 | some d=>ay d
 | none=>.nils
theorem EZ (ids:List Nat) (x:Option (List (List Int))):nmV ids (resV x) = true:=by cases x<;>rfl
def xb:Option (List (List Int) × Nat) -> Option (List (List Int)) × Int × Int
 | some (d,k)=>(some d,k,0)
 | none=>(none,0,5)
def ny (x:Option (List (List Int) × Nat)):AV:=.tup [resV (xb x).1,J (xb x).2.1,J (xb x).2.2]
def jZ (n:Net) (D:Nat -> List (List Int)) (k:Nat):Prop:=∀ j,1 <= j -> j <= k -> Used n (fun i c=>0 <= at2 (D j) i c)/\D (j - 1) ≠ D j
def cN (n:Net) (D:Nat -> List (List Int)) (rounds:Nat):Option (List (List Int) × Nat) -> Prop
 | some (d,k)=>1 <= k/\k <= rounds/\d = D k/\jZ n D (k - 1)/\Used n (fun i c=>0 <= at2 (D k) i c)/\D (k - 1) = D k
 | none=>(∃ k,1 <= k/\k <= rounds/\jZ n D (k - 1)/\¬ Used n (fun i c=>0 <= at2 (D k) i c)) \/ jZ n D rounds
theorem jZ.next {n:Net} {D:Nat -> List (List Int)} {k:Nat} (h:jZ n D k) (hu:Used n (fun i c=>0 <= at2 (D (k + 1)) i c)) (hd:D k ≠ D (k + 1)):jZ n D (k + 1):=fun j h1 h2=>by
 rcases ζ k j with h3 | h3
 ·obtain rfl:j = k + 1:=ω
  exact ⟨hu,hd⟩
 ·exact h j h1 h3
def xc (s:List (List Int) × Int × Option (List (List Int)) × Int × Int):List (Nat × LObj) :=
 [(804,.box [resV s.2.2.1]),(805,.box [J s.2.2.2.1]),(806,.box [J s.2.2.2.2]),(807,.box [ay s.1]),(808,.box [J s.2.1])]
theorem ka:Fam [804,805,806,807,808] xc:=by
 refine ⟨fun _=>rfl,φ,fun s p hp=>?_,fun s p hp=>?_⟩
 all_goals
  unfold xc at hp
  simp only [List.mem_cons,List.not_mem_nil,or_false] at hp
  rcases hp with rfl|rfl|rfl|rfl|rfl
 all_goals first|rfl|(show nmL _ [resV _] = true;unfold nmL;rw [EZ];rfl)
def rv (last nx:List (List Int)) (count e:Int):List (Nat × LObj):=[(804,.box [.nils]),(805,.box [J 0]),(806,.box [J e]),(807,.box [ay last]),(808,.box [J count]),(809,.box [ay nx])]
theorem nz (last nx:List (List Int)) (count:Int):Fam [804,805,806,807,808,809] (rv last nx count):=by
 refine ⟨fun _=>rfl,φ,fun s p hp=>?_,fun s p hp=>?_⟩
 all_goals
  unfold rv at hp
  simp only [List.mem_cons,List.not_mem_nil,or_false] at hp
  rcases hp with rfl|rfl|rfl|rfl|rfl|rfl
 all_goals rfl
theorem rx {B:List (Nat × Option LObj)} {s:List (List Int) × Int × Option (List (List Int)) × Int × Int} (h1:luB B 804 = some (.box [resV s.2.2.1])) (h2:luB B 805 = some (.box [J s.2.2.2.1])) (h3:luB B 806 = some (.box [J s.2.2.2.2])) (h4:luB B 807 = some (.box [ay s.1])) (h5:luB B 808 = some (.box [J s.2.1])):∀ p ∈ xc s,luB B p.1 = some p.2:=fun p hp=>by
 unfold xc at hp
 simp only [List.mem_cons,List.not_mem_nil,or_false] at hp
 rcases hp with rfl|rfl|rfl|rfl|rfl<;>assumption
theorem xd {B:List (Nat × Option LObj)} {last nx:List (List Int)} {count e:Int} (h1:luB B 804 = some (.box [.nils])) (h2:luB B 805 = some (.box [J 0])) (h3:luB B 806 = some (.box [J e])) (h5:luB B 807 = some (.box [ay last])) (h6:luB B 808 = some (.box [J count])) (h4:luB B 809 = some (.box [ay nx])):∀ p ∈ rv last nx count e,luB B p.1 = some p.2:=fun p hp=>by
 unfold rv at hp
 simp only [List.mem_cons,List.not_mem_nil,or_false] at hp
 rcases hp with rfl|rfl|rfl|rfl|rfl|rfl<;>assumption
theorem Bh (n:Net) (h:NetOk n) (rounds:Nat) (hr1:1 <= rounds) (hr2:rounds <= 60) (D:Nat -> List (List Int)) (h0:D 0 = l8 n (fun _ _=>0)) (hD:∀ k,k <= rounds -> DimOk n (D k)) (hstep:∀ k,k < rounds -> q0d 142 [n.av,ay (D k)] (.tup [ay (D (k + 1)),J 0])) :
  ∃ x,cN n D rounds x/\q0d 109 [n.av,J rounds] (ny x):=by
 have p0:=gO n h
 have p1:=tu n h
 obtain ⟨_,_,p2⟩:=tA n
 obtain ⟨_,_,p3⟩:=yD n (D 0)
 have hz:AvLe (.isl n.lines.length 1 (fun i=>bX (rowF n (fun _ _=>0) i))) (ay (D 0)):=by
  rw [h0]
  exact Γ (dC n _).symm fun i hi=>by rw [cE n _ hi]
 refine opE func109 ntmps109 results109 ?_ (hcl:=⟨rfl,rfl,by simp⟩) (hco:=fun x=>⟨by rcases x with _ | ⟨d,k⟩<;>rfl,by simp,rfl⟩)
 repeat' (first|(refine aq [] [] [(804,4),(805,5),(806,6),(807,7),(808,8)] [(2,.lptr 2 0),(3,.lptr 3 0),(4,.lptr 804 0),(5,.lptr 805 0),(6,.lptr 806 0),(7,.lptr 807 0),(8,.lptr 808 0)] [(2,some (.box n.cells)),(3,some (.box [J rounds])),(804,some (.box [.nils])),(805,some (.box [J 0])),(806,some (.box [J 0])),(807,some (.box [.osl 12 n.lines.length])),(808,some (.box [J 0])),(12,some (.arr n.lines.length 1 (fun i=>bX (rowF n (fun _ _=>0) i)) 22))] ⟨⟨rfl,rfl⟩,?_,?_⟩ ?_;(solve|((refine' subP)<;>first|exact ObLe.box (.cons hz .nil)|exact sq1));(solve|((refine' subP)<;>first|exact ObLe.box (.cons hz .nil)|exact sq1));(conv=>whnf);(refine ao 2 rfl rfl rfl ?_ ?_ ?_;(solve | try refine' frzZ);(solve | try refine' frzZ));(conv=>whnf);(refine ao 3 rfl rfl rfl ?_ ?_ ?_;(solve | try refine' frzZ);(solve | try refine' frzZ));(conv=>whnf);(refine ao 12 rfl rfl (fun _ _=>rfl) ?_ ?_ ?_;(solve | try refine' frzZ);(solve | try refine' frzZ));(conv=>whnf);(refine aq [2,3,4,5,6,7,8] [804,805,806,808] [] [] [(807,some (.box [ay (D 0)]))] ⟨⟨rfl,rfl⟩,?_,?_⟩ ?_;(solve|((refine' subP)<;>first|exact ObLe.box (.cons hz .nil)|exact sq1));(solve|((refine' subP)<;>first|exact ObLe.box (.cons hz .nil)|exact sq1)));(conv=>whnf))|refine' ag|(refine ab p0 ?_)|(refine d7 p1 rfl ?_;conv=>whnf)|(refine d7 p3 rfl ?_;conv=>whnf))
 all_goals try first|omega|(exfalso;omega)
 have hr3:(0:Nat) < rounds:=hr1
 refine vE 801 n rfl [2,3,4,5,6,7,8] [.ibox n.cells 0,.ibox [J rounds] 0,.lptr 804 0,.lptr 805 0,.lptr 806 0,.lptr 807 0,.lptr 808 0] [27,28] rfl ka (D 0,0,none,0,0) ⟨rfl,rfl,rfl,⟨rfl,rfl,rfl,rfl,rfl,trivial⟩,rfl,iF ⟨rfl,rfl,rfl,rfl,rfl,rfl,rfl,trivial⟩,rfl,φ,φ⟩ φ
  rounds D hstep rfl (fun k s=>s = (D k,(k:Int),none,0,0)/\jZ n D k)
  (fun m s=>(m = some .ret/\∃ x,cN n D rounds x/\s.2.2 = xb x) \/ (m = some (.exit 0)/\s.2.2 = (none,0,0)/\cN n D rounds none)) ?_ hr3 ⟨rfl,fun j h1 h2=>ω⟩ ?_
 ·rintro k s hk ⟨rfl,hG⟩
  have hk2:(k:Int) + 1 <= 60:=ω
  refine gvE ?_;conv=>whnf
  refine gvE ?_;conv=>whnf
  refine ⟨_,rfl,?_⟩
  repeat' (first|(refine aq [2,3,4,5,6,7,8,10] [801,804,805,806,807,808] [(809,9)] [(9,.lptr 809 0)] [(809,some (.box [ay (D (k + 1))]))] ⟨⟨rfl,rfl⟩,sq1,sq1⟩ ?_;conv=>whnf)|refine' ag|(refine ab p2 ?_))
  all_goals try first|omega|(exfalso;omega)|(unfold ah;dsimp only;omega)
  have hdm:=hD (k + 1) ω
  refine kV 802 n h rfl [2,3,4,5,6,7,8,9,10] [.ibox n.cells 0,.ibox [J rounds] 0,.lptr 804 0,.lptr 805 0,.lptr 806 0,.lptr 807 0,.lptr 808 0,.lptr 809 0,J 0] [36,37] rfl (nz (D k) (D (k + 1)) ((k:Int) + 1)) 0 ⟨rfl,rfl,rfl,⟨rfl,rfl,rfl,rfl,rfl,rfl,trivial⟩,rfl,iF ⟨rfl,rfl,rfl,rfl,rfl,rfl,rfl,rfl,rfl,trivial⟩,rfl,φ,φ⟩
   (fun i c e=>e = 0/\bQ n (fun i c=>0 <= at2 (D (k + 1)) i c) i c) (fun m e=>(m = none/\e = 0/\Used n (fun i c=>0 <= at2 (D (k + 1)) i c)) \/ (m = some .ret/\e = 5/\¬ Used n (fun i c=>0 <= at2 (D (k + 1)) i c)))
   (fun i c e hi hc hm hI=>?_) (fun i c e _ _ hm hI=>⟨hI.1,hI.2.skip hm⟩) (fun i c e _ hc hI=>⟨hI.1,hI.2.row hc⟩) (fun i e hi hI=>.inl ⟨rfl,hI.1,hI.2.all hi⟩) ⟨rfl,bQ.zero _ _⟩ ?_
  ·obtain ⟨rfl,hI⟩:=hI
   have hl3:=hdm.len
   have hl4:=hdm.row i hi
   have ei:(i:Int).toNat = i:=rfl
   by_cases hp:at2 (D (k + 1)) i c < 0
   ·skip
    repeat' (first|(refine aa (fun hb=>?_) (fun hb=>absurd hp hb);conv=>whnf)|(refine Exists.intro _ (And.intro rfl ?_))|refine' ag | fail)
    all_goals try first|omega|(rw [ei];omega)
    exact f0 (s:=5) (nz (D k) (D (k + 1)) ((k:Int) + 1)) rfl rfl .ret (.inr ⟨rfl,rfl,fun hu=>absurd (hu i c hi hc hm) ω⟩) rfl (xd rfl rfl rfl rfl rfl rfl)
   ·skip
    repeat' (first|(refine aa (fun hb=>absurd hb hp) (fun hb=>?_);conv=>whnf)|(refine Exists.intro _ (And.intro rfl ?_))|refine' ag | fail)
    all_goals try first|omega|(rw [ei];omega)
    exact iX (s:=0) (nz (D k) (D (k + 1)) ((k:Int) + 1)) rfl rfl ⟨rfl,hI.step ω⟩ rfl (xd rfl rfl rfl rfl rfl rfl)
  rintro m e (⟨rfl,rfl,hu⟩ | ⟨rfl,rfl,hu⟩)
  ·conv=>whnf
   obtain ⟨b,hb,p4⟩:=Dz n h (D k) (D (k + 1)) (hD k ω) hdm
   by_cases hs:D k = D (k + 1)
   ·have hbt:=hb.2 hs
    subst hbt
    repeat' (first|refine' ag|(refine ab p4 ?_))
    all_goals try first|omega|(unfold ah;dsimp only;omega)
    exact f0 (s:=(D k,(k:Int) + 1,some (D (k + 1)),(k:Int) + 1,0)) ka rfl rfl .ret (.inl ⟨rfl,some (D (k + 1),k + 1),⟨ω,ω,rfl,hG,hu,hs⟩,rfl⟩) rfl (rx rfl rfl rfl rfl rfl)
   ·have hbf:b = false:=by
     cases b with
     | false=>rfl
     | true=>exact absurd (hb.1 rfl) hs
    subst hbf
    by_cases hk:(k:Int) + 1 = rounds
    ·skip
     repeat' (first|(refine aa (fun hb=>?_) (fun hb=>absurd hk hb);conv=>whnf)|refine' ag|(refine ab p4 ?_))
     all_goals try first|omega|(unfold ah;dsimp only;omega)
     exact f0 (s:=(D k,(k:Int) + 1,none,0,0)) ka rfl rfl (.exit 0) (.inr ⟨rfl,rfl,.inr (by rw [(ω:rounds = k + 1)];exact hG.next hu hs)⟩) rfl (rx rfl rfl rfl rfl rfl)
    ·skip
     repeat' (first|(refine aa (fun hb=>absurd hb hk) (fun hb=>?_);conv=>whnf)|refine' ag|(refine ab p4 ?_))
     all_goals try first|omega|(unfold ah;dsimp only;omega)
     exact iX (s:=(D (k + 1),(k:Int) + 1,none,0,0)) ka rfl rfl ⟨ω,rfl,hG.next hu hs⟩ rfl (rx rfl rfl rfl rfl rfl)
  ·conv=>whnf
   exact f0 (s:=(D k,(k:Int) + 1,none,0,5)) ka rfl rfl .ret (.inl ⟨rfl,none,.inl ⟨k + 1,ω,ω,hG,hu⟩,rfl⟩) rfl (rx rfl rfl rfl rfl rfl)
 ·rintro d m ⟨last,count,r⟩ (⟨rfl,x,hx,hs⟩ | ⟨rfl,hs,hx⟩)
  ·conv=>whnf
   dsimp only at hs
   subst hs
   exact ac ⟨x,rfl,hx⟩
  ·conv=>whnf
   repeat' (first|refine' ag | fail)
   dsimp only at hs
   subst hs
   exact ac ⟨none,rfl,hx⟩
end Go.Nc