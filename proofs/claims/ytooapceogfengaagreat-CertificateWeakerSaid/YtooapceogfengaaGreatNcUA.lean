/- Parts. -/
import Derived.Test.YtooapceogfengaaGreatNcEB
import Derived.Test.YtooapceogfengaaGreatNcJC
namespace Go.Nc
open Go.Proofs.Tryz
open Go.Proofs
set_option maxHeartbeats 8000000
theorem CC{ids:List Nat}{yid:Nat}(h:yid∈ids):nmV ids (.yld yid)=true:=by
 unfold nmV;exact List.elem_eq_true_of_mem h
theorem jm{pid:List Nat}{nt:Nat}{A:St}{env:List (Nat×AV)}{L:Xc}(ids:List Nat)(hL:L.map (·.1)=ids)(hp:∀i∈pid,i∈ids)(ho:∀p∈L,luB A.objs p.1=some p.2)(hcl:∀p∈L,obCl ids p.2)(he:wY A.env ids env):cb pid nt A ⟨env,aS L⟩:=by
 subst hL;exact wZ hp ho hcl he
section
variable {σ:Type} {ids:List Nat} {O:σ->Xc}
theorem Fam.ghost0(hf:Fam ids O){nt:Nat}{A:St}{env:List (Nat×AV)}(s:σ)(ho:∀p∈O s,luB A.objs p.1=some p.2)(he:wY A.env ids env):cb ids nt A ⟨env,aS (O s)⟩ :=
 jm ids (hf.same s) (λ_ h=>h) ho (hf.cl s) he
theorem Fam.ghost1(hf:Fam ids O){nt:Nat}{A:St}{env:List (Nat×AV)}(k:Nat)(ob:LObj)(s:σ)(hk:luB A.objs k=some ob)(hc:obCl (k::ids) ob)(ho:∀p∈O s,luB A.objs p.1=some p.2)(he:wY A.env (k::ids) env):cb ids nt A ⟨env,(k,some ob)::aS (O s)⟩:=by
 refine jm (L:=(k,ob)::O s) (k::ids) (by rw[List.map_cons,hf.same]) (λi hi=>by simp[hi]) (λp hp=>?_) (λp hp=>?_) he
 ·rcases List.mem_cons.1 hp with rfl|hp
  ·exact hk
  ·exact ho p hp
 ·rcases List.mem_cons.1 hp with rfl|hp
  ·exact hc
  ·exact gA (λi hi=>by simp[hi]) (hf.cl s p hp)
theorem Fam.at1(hf:Fam ids O){k:Nat}(hk:k∉ids)(x:Option LObj)(s:σ){B:Xb}(h:∀p∈O s,luB B p.1=some p.2):∀p∈O s,luB ((k,x)::B) p.1=some p.2:=λp hp=>by
 rw[gg,if_neg λe=>hk (by rw[<-e,<-hf.same s];exact List.mem_map.2 ⟨p,hp,rfl⟩)];exact h p hp
theorem Fam.at0(hf:Fam ids O)(s:σ):∀p∈O s,luB (aS (O s)) p.1=some p.2:=λp hp=>by rw[jl,hf.lu s p hp]
end
theorem CD{σ:Type}{ids:List Nat}{O:σ->Xc}(hf:Fam ids O)(hid:∀i∈ids,800<=i)(yid:Nat)(hy:yid∈ids)(n:Net)(h:NetOk n)(I:Nat->Nat->σ->Prop)(E:σ->Prop)
  (hyield:∀(i c:Nat) (s:σ),i<n.lines.length->(c:Int)<(n.lines.getD i default).classes->au n i c≠[]->I i c s->∃b outs,(∃s',outs=O s'/\(b=true->I i (c+1) s')/\(b=false->E s'))/\YSpec prog yid [J i,J c] (O s) b outs)
  (hskip:∀(i c:Nat) (s:σ),i<n.lines.length->(c:Int)<(n.lines.getD i default).classes->au n i c=[]->I i c s->I i (c+1) s)
  (hrow:∀(i c:Nat) (s:σ),i<n.lines.length->¬(c:Int)<(n.lines.getD i default).classes->I i c s->I (i+1) 0 s)
  (hend:∀(i:Nat) (s:σ),¬i<n.lines.length->I i 0 s->E s) (s0:σ) (h0:I 0 0 s0) :
  ∃s,E s/\q0c 67 [.yld yid,.ibox n.cells 0] (O s0) (.tup []) (O s):=by
 have hln:=h.len;have hfl:=h.flen;have n4:4∉ids:=λe=>by have:=hid 4 e;omega
 have f4:∀s,luB (aS (O s)) 4=none:=λs=>by rw[jl];exact hf.free s n4
 have hyn:=CC hy;have hyn4:=CC (List.mem_cons_of_mem 4 hy);refine opE func67 ntmps67 results67 ?_ (hcl:=⟨hf.liveB s0,by rw[hf.same];simp only[nmL,CC hy];rfl,hf.clB s0⟩) (hco:=λs=>⟨rfl,hf.clB s,List.all_eq_true.2 λp hp=>List.elem_eq_true_of_mem (by rw[hf.same,<-hf.same s0];exact List.mem_map.2 ⟨p,hp,rfl⟩)⟩);rw[hf.same];repeat'(first|refine' ag|fail)
 all_goals try exact ariA
 refine j5 (ι:={p:Nat×σ//p.1<=n.lines.length/\I p.1 0 p.2}) (λ⟨(i,s),_⟩=>⟨[(0,.yld yid),(1,.ibox n.cells 0),(7,slc 5 Line.cells default n.lines),(8,J n.lines.length),(9,J i)],(4,none)::aS (O s)⟩) (λ⟨(i,_),_⟩=>n.lines.length-i) ⟨(0,s0),π _,h0⟩ ?_ ?_
 ·refine(hf.ghost0 s0 (hf.at0 s0) ?_).trans (oQ (f4 s0));exact⟨⟨hyn,Ψ⟩,⟨rfl,Ψ⟩,⟨rfl,Ψ⟩,⟨rfl,Ψ⟩,⟨rfl,Ψ⟩,trivial⟩
 rintro⟨⟨i,s⟩,hi,hI⟩;dsimp only at hi hI;conv=>whnf
 by_cases hil:(i:Int)<n.lines.length
 ·skip;repeat'(first|(refine Λ hil λhb=>?_;conv=>whnf)|refine' ag|fail)
  all_goals try exact ariA
  refine j5 (ι:={p:Nat×σ//(p.1:Int)<=max 0 (n.lines.getD i default).classes/\I i p.1 p.2}) (λ⟨(c,s),_⟩=>⟨[(0,.yld yid),(1,.ibox n.cells 0),(3,J i),(7,slc 5 Line.cells default n.lines),(8,J n.lines.length),(9,J i),(15,J (n.lines.getD i default).classes),(16,J c)],(4,some (.box (n.lines.getD i default).cells))::aS (O s)⟩) (λ⟨(c,_),_⟩=>(n.lines.getD i default).classes.toNat-c) ⟨(0,s),κ,hI⟩ ?_ ?_
  ·refine hf.ghost1 4 _ s ?_ ?_ ?_ ?_
   ·rfl
   ·rfl
   ·exact hf.at1 n4 _ s (hf.at1 n4 _ s (hf.at1 n4 _ s (hf.at0 s)))
   ·exact⟨⟨hyn4,Ψ⟩,⟨rfl,Ψ⟩,⟨rfl,Ψ⟩,⟨rfl,Ψ⟩,⟨rfl,Ψ⟩,⟨rfl,Ψ⟩,⟨rfl,Ψ⟩,⟨rfl,Ψ⟩,trivial⟩
  rintro⟨⟨c,s⟩,hc,hI⟩;dsimp only at hc hI;have hc6:=(h.line (n.lines.getD i default) (by rw[ψ,β ω];exact List.getElem_mem _)).cls;conv=>whnf
  by_cases hcl:(c:Int)<(n.lines.getD i default).classes
  ·have pm:=cD n i c ω (λj hj=>by have:=(h.flow _ (List.getElem_mem hj)).ne;rw[ψ,β hj];dsimp only[Option.getD_some];omega);by_cases hm:au n i c=[]
   ·have hm0:¬0<((au n i c).length:Int):=by rw[hm];decide
    repeat'(first|(refine Υ hm0 λhb=>?_;conv=>whnf)|(refine Λ hcl λhb=>?_;conv=>whnf)|refine' ag|refine ab pm ?_)
    all_goals try exact ariA
    refine⟨⟨(c+1,s),κ,hskip i c s ω hcl hm hI⟩,hf.ghost1 4 _ s rfl rfl (hf.at1 n4 _ s (hf.at0 s)) ?_,κ⟩;exact⟨⟨hyn4,Ψ⟩,⟨rfl,Ψ⟩,⟨rfl,Ψ⟩,⟨rfl,Ψ⟩,⟨rfl,Ψ⟩,⟨rfl,Ψ⟩,⟨rfl,Ψ⟩,⟨rfl,Ψ⟩,trivial⟩
   ·have hm0:0<((au n i c).length:Int):=by
     rcases hl:au n i c with _|⟨x,l⟩
     ·exact absurd hl hm
     ·simp only[List.length_cons];omega
    obtain⟨b,outs,⟨s',rfl,ht,hff⟩,hY⟩:=hyield i c s ω hcl hm hI;repeat'(first|(refine Λ hm0 λhb=>?_;conv=>whnf)|(refine Λ hcl λhb=>?_;conv=>whnf)|refine' ag|refine ab pm ?_)
    all_goals try exact ariA
    refine vYield.mk ⟨b,O s,O s',hY,dX (hf.at1 n4 _ s (hf.at0 s)),hf.outs hf s s' _,?_⟩;refine yw ?_;have hat:∀p∈O s',luB (aS (O s')++(4,some (LObj.box (n.lines.getD i default).cells))::aS (O s)) p.1=some p.2:=hf.luBA s' _;have h4:luB (aS (O s')++(4,some (LObj.box (n.lines.getD i default).cells))::aS (O s)) 4=some (LObj.box (n.lines.getD i default).cells):=by
     rw[oP,hf.free s' n4];rfl
    cases b with
    |true=>
     repeat'(first|refine' ag|fail)
     all_goals try exact ariA
     refine⟨⟨(c+1,s'),κ,ht rfl⟩,hf.ghost1 4 _ s' h4 rfl hat ?_,κ⟩;exact⟨⟨hyn4,Ψ⟩,⟨rfl,Ψ⟩,⟨rfl,Ψ⟩,⟨rfl,Ψ⟩,⟨rfl,Ψ⟩,⟨rfl,Ψ⟩,⟨rfl,Ψ⟩,⟨rfl,Ψ⟩,trivial⟩
    |false=>
     repeat'(first|refine' ag|fail)
     exact⟨s',hff rfl,λw0 Im0 ρ0=>⟨_,Ghost.rfl,Ψ,dX hat⟩⟩
  ·skip;repeat'(first|(refine Υ hcl λhb=>?_;conv=>whnf)|refine' ag|fail)
   all_goals try exact ariA
   refine⟨⟨(i+1,s),κ,hrow i c s ω hcl hI⟩,(hf.ghost0 s (hf.at1 n4 _ s (hf.at0 s)) ?_).trans (oQ (f4 s)),κ⟩;exact⟨⟨hyn,Ψ⟩,⟨rfl,Ψ⟩,⟨rfl,Ψ⟩,⟨rfl,Ψ⟩,⟨rfl,Ψ⟩,trivial⟩
 ·skip;repeat'(first|(refine Υ hil λhb=>?_;conv=>whnf)|refine' ag|fail)
  exact⟨s,hend i s ω hI,λw0 Im0 ρ0=>⟨_,Ghost.rfl,Ψ,dX (hf.at1 n4 none s (hf.at0 s))⟩⟩
theorem Ap{σ:Type}{ids ids':List Nat}{R:σ->Xc}{O:Xa×σ->Xc}(hf:Fam ids R)(hf':Fam ids' O)(h9:899∉ids)(hO:∀x p,p∈O x↔p=(899,.box [a9 x.1])\/p∈R x.2)(yid:Nat)(hy:yid∈ids)(n:Net)
  (N:Nat) (D:Nat->Xa) (hstep:∀k,k<N->q0d 66 [n.av,a9 (D k)] (.tup [a9 (D (k+1)),J 0])) (I:Nat->σ->Prop) (E:σ->Prop)
  (hyield:∀(k:Nat) (s:σ),k<N->I k s->∃b outs,(∃s',outs=R s'/\(b=true->k+1<N/\I (k+1) s')/\(b=false->E s'))/\YSpec prog yid [a9 (D (k+1)),J 0] (R s) b outs)
  (s0:σ) (h0:I 0 s0) (hN:0<N):∃x:Xa×σ,E x.2/\q0c 65 [.yld yid,.ibox n.cells 0,.lptr 899 0] (O (D 0,s0)) (.tup []) (O x):=by
 have i9:∀i,i∈ids'↔i=899\/i∈ids:=λi=>by
  rw[<-hf'.same (D 0,s0),<-hf.same s0];simp only[List.mem_map,hO];constructor
  ·rintro⟨p,rfl|hp,rfl⟩
   ·exact .inl rfl
   ·exact .inr ⟨p,hp,rfl⟩
  ·rintro(rfl|⟨p,hp,rfl⟩)
   ·exact⟨_,.inl rfl,rfl⟩
   ·exact⟨p,.inr hp,rfl⟩
 have hp9:nmV ids' (.lptr 899 0)=true:=by
  unfold nmV;exact List.elem_eq_true_of_mem ((i9 899).2 (.inl rfl))
 have hyn:=CC (List.mem_cons_of_mem 899 hy);have view:∀{A:St} {env:List (Nat×AV)} (d:Xa) (s:σ),luB A.objs 899=some (.box [a9 d])->(∀p∈R s,luB A.objs p.1=some p.2)->wY A.env (899::ids) env->cb ids' 22 A ⟨env,(899,some (.box [a9 d]))::aS (R s)⟩:=λd s h1 h2 h3=>by
  refine jm (L:=(899,.box [a9 d])::R s) (899::ids) (by rw[List.map_cons,hf.same]) (λi hi=>?_) (λp hp=>?_) (λp hp=>?_) h3
  ·rcases(i9 i).1 hi with rfl|hi
   ·exact List.mem_cons_self
   ·exact List.mem_cons_of_mem _ hi
  ·rcases List.mem_cons.1 hp with rfl|hp
   ·exact h1
   ·exact h2 p hp
  ·rcases List.mem_cons.1 hp with rfl|hp
   ·rfl
   ·exact gA (λi hi=>List.mem_cons_of_mem _ hi) (hf.cl s p hp)
 refine opE func65 ntmps65 results65 ?_ (hcl:=⟨hf'.liveB _,by rw[hf'.same];simp only[nmL,CC ((i9 yid).2 (.inr hy)),hp9];rfl,hf'.clB _⟩) (hco:=λx=>⟨rfl,hf'.clB x,List.all_eq_true.2 λp hp=>List.elem_eq_true_of_mem (by rw[hf'.same,<-hf'.same (D 0,s0)];exact List.mem_map.2 ⟨p,hp,rfl⟩)⟩);rw[hf'.same];refine bm (view (env:=[(0,.yld yid),(1,.ibox n.cells 0),(2,.lptr 899 0)]) (D 0) s0 ?_ ?_ ?_) ?_
 ·rw[jl];exact hf'.lu _ (899,.box [a9 (D 0)]) ((hO _ _).2 (.inl rfl))
 ·intro p hp;rw[jl];exact hf'.lu _ p ((hO _ _).2 (.inr hp))
 ·exact⟨⟨hyn,Ψ⟩,⟨rfl,Ψ⟩,⟨rfl,Ψ⟩,trivial⟩
 repeat'(first|refine' ag|fail)
 refine j5 (ι:={p:Nat×σ//p.1<N/\I p.1 p.2}) (λ⟨(k,s),_⟩=>⟨[(0,.yld yid),(1,.ibox n.cells 0),(2,.lptr 899 0)],(899,some (.box [a9 (D k)]))::aS (R s)⟩) (λ⟨(k,_),_⟩=>N-k) ⟨(0,s0),hN,h0⟩ cb.rfl ?_;rintro⟨⟨k,s⟩,hk,hI⟩;dsimp only at hk hI;conv=>whnf
 obtain⟨b,outs,⟨s',rfl,ht,hff⟩,hY⟩:=hyield k s hk hI;have ps:=hstep k hk;repeat'(first|refine' ag|refine ab ps ?_)
 refine vYield.mk ⟨b,R s,R s',hY,dX (hf.at1 h9 _ s (hf.at0 s)),hf.outs hf s s' _,?_⟩;refine yw ?_;have hat:∀p∈R s',luB (aS (R s')++(899,some (LObj.box [a9 (D k)]))::aS (R s)) p.1=some p.2:=hf.luBA s' _;have h4:luB (aS (R s')++(899,some (LObj.box [a9 (D k)]))::aS (R s)) 899=some (LObj.box [a9 (D k)]):=by
  rw[oP,hf.free s' h9];rfl
 cases b with
 |true=>
  obtain⟨hk1,hI1⟩:=ht rfl;conv=>whnf
  refine gvE ?_;conv=>whnf
  refine gvE ?_;conv=>whnf
  refine bm (view (env:=[(0,.yld yid),(1,.ibox n.cells 0),(2,.lptr 899 0),(4,a9 (D (k+1)))]) (D k) s' h4 hat ⟨⟨hyn,Ψ⟩,⟨rfl,Ψ⟩,⟨rfl,Ψ⟩,⟨rfl,Ψ⟩,trivial⟩) ?_;repeat'(first|refine' ag|fail)
  refine⟨⟨(k+1,s'),hk1,hI1⟩,view (D (k+1)) s' rfl (hf.at1 h9 _ s' (hf.at1 h9 _ s' (hf.at0 s'))) ⟨⟨hyn,Ψ⟩,⟨rfl,Ψ⟩,⟨rfl,Ψ⟩,trivial⟩,κ⟩
 |false=>
  repeat'(first|refine' ag|fail)
  refine⟨(D k,s'),hff rfl,λw0 Im0 ρ0=>⟨_,Ghost.rfl,Ψ,dX λp hp=>?_⟩⟩;rcases(hO _ _).1 hp with rfl|hp
  ·exact h4
  ·exact hat p hp
theorem Aq(n:Net)(d:Xa):∃_:Unit,True/\q0c 42 [n.av,a9 d] [] (.fn 65 [.ibox n.cells 0,.lptr 899 0]) [(899,.box [a9 d])]:=by
 refine opE func42 ntmps42 results42 ?_ (hcl:=⟨rfl,rfl,by simp⟩) (hco:=λ_=>⟨rfl,bD rfl,rfl⟩);repeat'(first|(refine am [3] [3] [] [(2,.lptr 2 0)] [(2,some (.box n.cells))] ⟨⟨rfl,rfl⟩,sq1,sq1⟩ ?_;(conv=>whnf);(refine ax 2 rfl rfl rfl ?_ ?_ ?_;(solve|try refine' frzZ);(solve|try refine' frzZ));(conv=>whnf))|refine' ag|fail)
 refine b7 [] [] [(899,3)] [(4,.fn 65 [.ibox n.cells 0,.lptr 899 0])] [(899,some (.box [a9 d]))] ⟨⟨rfl,rfl⟩,?_,?_⟩ ?_
 ·skip;all_goals exact sq1
 ·skip;all_goals exact sq1
 conv=>whnf
 exact aF ⟨(),rfl,⟨rfl,trivial⟩,trivial⟩
theorem uV(n:Net):∃_:Unit,True/\q0d 43 [n.av] (.fn 67 [.ibox n.cells 0]):=by
 refine opE func43 ntmps43 results43 ?_;repeat'(first|refine' ag|fail)
 refine b7 [2] [] [] [] [(1,some (.box n.cells))] ⟨⟨rfl,rfl⟩,?_,?_⟩ (bP 1 rfl rfl rfl ?_ ?_ (ac ?_))
 ·skip;all_goals exact sq1
 ·skip;all_goals exact sq1
 ·all_goals try refine' frzZ
 ·all_goals try refine' frzZ
 ·conv=>whnf
  exact⟨(),rfl,trivial⟩
def recM(m:Option Code)(ks:List Nat)(cs:List AV)(ps:Array Tmp)(assign body:Code)(nt:Nat):LObj:=match m with
 |none=>.lrec .ready none ks cs ps assign body nt
 |some c=>.lrec .done (some c) ks cs ps assign body nt
section
variable {σ:Type} {lids:List Nat} {L:σ->Xc}
theorem CE(hL:Fam lids L){yid:Nat}(hy:yid∉lids){ks:List Nat}{cs:List AV}{ps:Array Tmp}{assign body:Code}{nt:Nat}(hc:nmL (yid::lids) cs=true):Fam (yid::lids) (λx:σ×Option Code=>(yid,recM x.2 ks cs ps assign body nt)::L x.1):=by
 refine⟨λx=>by rw[List.map_cons,hL.same],List.nodup_cons.2 ⟨hy,hL.nd⟩,λx p hp=>?_,λx p hp=>?_⟩
 ·rcases List.mem_cons.1 hp with rfl|hp
  ·obtain⟨s,m⟩:=x;cases m<;>rfl
  ·exact hL.live _ p hp
 ·rcases List.mem_cons.1 hp with rfl|hp
  ·obtain⟨s,m⟩:=x;cases m<;>exact hc
  ·exact gA (λi hi=>List.mem_cons_of_mem _ hi) (hL.cl _ p hp)
def yx(yid nt:Nat)(ks:List Nat)(cs:List AV)(ps:Array Tmp)(assign body:Code)(L:σ->Xc)(G:σ->Prop)(E:Option Code->σ->Prop)(b:Bool)(outs:Xc):Prop :=
 ∃(s:σ) (m:Option Code),outs=(yid,recM m ks cs ps assign body nt)::L s/\(b=true->m=none/\G s)/\(b=false->E m s)
theorem jA{pid:List Nat}(hL:Fam lids L){yid nt:Nat}{ks:List Nat}{cs:List AV}{ps:Array Tmp}{assign body:Code}{G:σ->Prop}{E:Option Code->σ->Prop}{B:St}(hpid:pid=yid::lids)(hc:nmL (yid::lids) cs=true)(s:σ)(hG:G s)
  (hy:luB B.objs yid=some (.lrec .busy none ks cs ps assign body nt)) (ho:∀p∈L s,luB B.objs p.1=some p.2):RFin pid nt yid ks ps assign body .ready none true (yx yid nt ks cs ps assign body L G E) B:=by
 subst hpid;refine⟨⟨B.env,B.objs⟩,cs,L s,cb.rfl,hy,dX ho,⟨λp hp=>?_,?_⟩,s,none,rfl,λ_=>⟨rfl,hG⟩,λh=>(by cases h)⟩
 ·rw[List.map_cons,hL.same];rcases List.mem_cons.1 hp with rfl|hp
  ·exact hc
  ·exact gA (λi hi=>List.mem_cons_of_mem _ hi) (hL.cl _ p hp)
 ·rw[List.map_cons,hL.same];exact List.all_eq_true.2 λi hi=>List.elem_eq_true_of_mem hi
theorem fS{pid:List Nat}(hL:Fam lids L){yid nt:Nat}{ks:List Nat}{cs:List AV}{ps:Array Tmp}{assign body:Code}{G:σ->Prop}{E:Option Code->σ->Prop}{B:St}(hpid:pid=yid::lids)(hc:nmL (yid::lids) cs=true)(s:σ)(c:Code)(hE:E (some c) s)
  (hy:luB B.objs yid=some (.lrec .busy none ks cs ps assign body nt)) (ho:∀p∈L s,luB B.objs p.1=some p.2):RFin pid nt yid ks ps assign body .done (some c) false (yx yid nt ks cs ps assign body L G E) B:=by
 subst hpid;refine⟨⟨B.env,B.objs⟩,cs,L s,cb.rfl,hy,dX ho,⟨λp hp=>?_,?_⟩,s,some c,rfl,λh=>(by cases h),λ_=>hE⟩
 ·rw[List.map_cons,hL.same];rcases List.mem_cons.1 hp with rfl|hp
  ·exact hc
  ·exact gA (λi hi=>List.mem_cons_of_mem _ hi) (hL.cl _ p hp)
 ·rw[List.map_cons,hL.same];exact List.all_eq_true.2 λi hi=>List.elem_eq_true_of_mem hi
structure RangeOk(A:St)(pid:List Nat)(nt yid:Nat)(ks:List Nat)(cs:List AV)(ps:Array Tmp)(psl:List Nat)(lids:List Nat)(L0:Xc):Prop where
 pse:ps.toList=psl
 plt:(psl.all λp=>Nat.blt p nt)=true
 free:luB A.objs yid=none
 ins:dB A.o L0
 len:ks.length=cs.length
 env:∀(i k:Nat) (c:AV),ks[i]? =some k->cs[i]? =some c->luS A.env k=some c
 cl:nmL (yid::lids) cs=true
 hi:∀i∈yid::lids,800<=i
 nin:yid∉lids
theorem CF{A:St}{nt yid:Nat}{ks:List Nat}{cs:List AV}{ps:Array Tmp}{assign body:Code}(hL:Fam lids L)(s0 s:σ)(m:Option Code){K:Exit->St->Prop}
  (h:CB m K ⟨zipE ks cs,(yid,some .dead)::(aS (L s)++A.objs)⟩):RangeK A yid nt ks ps assign body (L s0) ((yid,recM m ks cs ps assign body nt)::L s) K:=by
 cases m with
 |none=>exact⟨.ready,none,cs,L s,rfl,(by intro e;cases e),hL.outs hL s0 s _,h⟩
 |some c=>exact⟨.done,some c,cs,L s,rfl,(by intro e;cases e),hL.outs hL s0 s _,h⟩
theorem mr{pid:List Nat}{nt:Nat}{A:St}{g:Operand}{ps:Array Tmp}{assign body:Code}{K:Exit->St->Prop}(yid:Nat)(n:Net)(h:NetOk n)(hg:opdV A.s g=some (.fn 67 [.ibox n.cells 0]))(ks:List Nat)(cs:List AV)(psl:List Nat)(hpl:psl.length=2)
  (hL:Fam lids L) (s0:σ) (hok:RangeOk A pid nt yid ks cs ps psl lids (L s0)) (I:Nat->Nat->σ->Prop) (E:Option Code->σ->Prop)
  (hround:∀(i c:Nat) (s:σ),i<n.lines.length->(c:Int)<(n.lines.getD i default).classes->au n i c≠[]->I i c s->
   GoodE prog (yid::lids) nt assign ⟨parE psl [J i,J c] (zipE ks cs),(yid,some (.lrec .ready none ks cs ps assign body nt))::aS (L s)⟩ (asgE prog (yid::lids) nt yid ks ps assign body (yx yid nt ks cs ps assign body L (I i (c+1)) E)))
  (hskip:∀(i c:Nat) (s:σ),i<n.lines.length->(c:Int)<(n.lines.getD i default).classes->au n i c=[]->I i c s->I i (c+1) s)
  (hrow:∀(i c:Nat) (s:σ),i<n.lines.length->¬(c:Int)<(n.lines.getD i default).classes->I i c s->I (i+1) 0 s)
  (hend:∀(i:Nat) (s:σ),¬i<n.lines.length->I i 0 s->E none s) (h0:I 0 0 s0)
  (hK:∀m s,E m s->CB m K ⟨zipE ks cs,(yid,some .dead)::(aS (L s)++A.objs)⟩):LoopE prog pid nt (.rangeFunc g ps assign body) A K:=by
 have hF:=CE hL hok.nin (ks:=ks) (ps:=ps) (assign:=assign) (body:=body) (nt:=nt) hok.cl;refine oO (α:=σ×Option Code) (r:=λ_=>.tup []) (outs:=λx=>(yid,recM x.2 ks cs ps assign body nt)::L x.1) (Q:=λx=>E x.2 x.1) yid hg hok.free (L s0) hok.ins ks cs hok.len hok.env ?_ λx hx=>CF hL s0 x.1 x.2 (hK x.2 x.1 hx);refine CD hF hok.hi yid List.mem_cons_self n h (λi c x=>x.2=none/\I i c x.1) (λx=>E x.2 x.1) (λi c x hi hc hm hI=>?_) (λi c x hi hc hm hI=>⟨hI.1,hskip i c x.1 hi hc hm hI.2⟩) (λi c x hi hc hI=>⟨hI.1,hrow i c x.1 hi hc hI.2⟩)
  (λi x hi hI=>by rw[hI.1];exact hend i x.1 hi hI.2) (s0,none) ⟨rfl,h0⟩
 obtain⟨s,m⟩:=x;obtain⟨rfl,hI⟩:=hI;have hr:=hround i c s hi hc hm hI;rw[show yid::lids=yid::(L s).map (·.1) by rw[hL.same]]at hr;obtain⟨b,outs,⟨s',m',rfl,q1,q2⟩,hY⟩:=yu (cs:=cs) (L:=L s) hok.pse (by rw[hpl];rfl) hok.plt ⟨hL.liveB s,rfl,by rw[hL.same];exact hok.cl,λp hp=>by rw[hL.same];exact gA (λi hi=>List.mem_cons_of_mem _ hi) (hL.cl s p hp)⟩ hr;exact⟨b,_,⟨(s',m'),rfl,λhb=>q1 hb,q2⟩,hY⟩
theorem xa{pid:List Nat}{nt:Nat}{A:St}{g:Operand}{ps:Array Tmp}{assign body:Code}{K:Exit->St->Prop}(yid:Nat)(n:Net)(hg:opdV A.s g=some (.fn 65 [.ibox n.cells 0,.lptr 899 0]))(ks:List Nat)(cs:List AV)(psl:List Nat)(hpl:psl.length=2)
  (hL:Fam lids L) (s0:σ) (hok:RangeOk A pid nt yid ks cs ps psl lids (L s0)) (h9:899∉yid::lids) (N:Nat) (D:Nat->Xa) (hstep:∀k,k<N->q0d 66 [n.av,a9 (D k)] (.tup [a9 (D (k+1)),J 0])) (h899:luB A.objs 899=some (.box [a9 (D 0)])) (I:Nat->σ->Prop) (E:Option Code->σ->Prop)
  (hround:∀(k:Nat) (s:σ),k<N->I k s->
   GoodE prog (yid::lids) nt assign ⟨parE psl [a9 (D (k+1)),J 0] (zipE ks cs),(yid,some (.lrec .ready none ks cs ps assign body nt))::aS (L s)⟩ (asgE prog (yid::lids) nt yid ks ps assign body (yx yid nt ks cs ps assign body L (λs'=>k+1<N/\I (k+1) s') E)))
  (hN:0<N) (h0:I 0 s0)
  (hK:∀d m s,E m s->CB m K ⟨zipE ks cs,(yid,some .dead)::(aS ((899,.box [a9 d])::L s)++A.objs)⟩):LoopE prog pid nt (.rangeFunc g ps assign body) A K:=by
 have hF:=CE hL hok.nin (ks:=ks) (ps:=ps) (assign:=assign) (body:=body) (nt:=nt) hok.cl;have h9l:899∉lids:=λe=>h9 (List.mem_cons_of_mem _ e);have hy9:yid≠899:=λe=>h9 (by rw[e];exact List.mem_cons_self);have hL9:Fam (899::lids) (λx:Xa×σ=>(899,.box [a9 x.1])::L x.2):=by
  refine⟨λx=>by rw[List.map_cons,hL.same],List.nodup_cons.2 ⟨h9l,hL.nd⟩,λx p hp=>?_,λx p hp=>?_⟩
  ·rcases List.mem_cons.1 hp with rfl|hp
   ·rfl
   ·exact hL.live _ p hp
  ·rcases List.mem_cons.1 hp with rfl|hp
   ·rfl
   ·exact gA (λi hi=>List.mem_cons_of_mem _ hi) (hL.cl _ p hp)
 have hF9:Fam (yid::899::lids) (λx:Xa×(σ×Option Code)=>(yid,recM x.2.2 ks cs ps assign body nt)::(899,.box [a9 x.1])::L x.2.1):=by
  have hq:=CE hL9 (yid:=yid) (λe=>by rcases List.mem_cons.1 e with e|e;exact hy9 e;exact hok.nin e) (ks:=ks) (ps:=ps) (assign:=assign) (body:=body) (nt:=nt) (nmL_sub (λi hi=>by rcases List.mem_cons.1 hi with rfl|hi;exact List.mem_cons_self;exact List.mem_cons_of_mem _ (List.mem_cons_of_mem _ hi)) _ hok.cl);exact⟨λx=>hq.same ((x.1,x.2.1),x.2.2),hq.nd,λx=>hq.live ((x.1,x.2.1),x.2.2),λx=>hq.cl ((x.1,x.2.1),x.2.2)⟩
 refine oO (α:=Xa×(σ×Option Code)) (r:=λ_=>.tup []) (outs:=λx=>(yid,recM x.2.2 ks cs ps assign body nt)::(899,.box [a9 x.1])::L x.2.1) (Q:=λx=>E x.2.2 x.2.1) yid hg hok.free ((899,.box [a9 (D 0)])::L s0) ⟨h899,hok.ins⟩ ks cs hok.len hok.env ?_
  λx hx=>CF hL9 (D 0,s0) (x.1,x.2.1) x.2.2 (hK x.1 x.2.2 x.2.1 hx)
 refine Ap hF hF9 h9 (λx p=>?_) yid List.mem_cons_self n N D hstep (λk x=>x.2=none/\I k x.1) (λx=>E x.2 x.1) (λk x hk hI=>?_) (s0,none) ⟨rfl,h0⟩ hN
 ·simp only[List.mem_cons];constructor
  ·rintro(h|h|h)
   ·exact .inr (.inl h)
   ·exact .inl h
   ·exact .inr (.inr h)
  ·rintro(h|h|h)
   ·exact .inr (.inl h)
   ·exact .inl h
   ·exact .inr (.inr h)
 obtain⟨s,m⟩:=x;obtain⟨rfl,hI⟩:=hI;have hr:=hround k s hk hI;rw[show yid::lids=yid::(L s).map (·.1) by rw[hL.same]]at hr;obtain⟨b,outs,⟨s',m',rfl,q1,q2⟩,hY⟩:=yu (cs:=cs) (L:=L s) hok.pse (by rw[hpl];rfl) hok.plt ⟨hL.liveB s,rfl,by rw[hL.same];exact hok.cl,λp hp=>by rw[hL.same];exact gA (λi hi=>List.mem_cons_of_mem _ hi) (hL.cl s p hp)⟩ hr;exact⟨b,_,⟨(s',m'),rfl,λhb=>⟨(q1 hb).2.1,(q1 hb).1,(q1 hb).2.2⟩,q2⟩,hY⟩
end
def at2(d:Xa)(i c:Nat):Int:=(d.getD i []).getD c 0
def Used(n:Net)(P:Nat->Nat->Prop):Prop:=∀i c:Nat,i<n.lines.length->(c:Int)<(n.lines.getD i default).classes->au n i c≠[]->P i c
def cn(n:Net)(P:Nat->Nat->Prop)(i c:Nat):Prop:=∀a b:Nat,a<n.lines.length->(b:Int)<(n.lines.getD a default).classes->au n a b≠[]->(a<i\/a=i/\b<c)->P a b
theorem cn.zero(n:Net)(P:Nat->Nat->Prop):cn n P 0 0:=λa b _ _ _ h=>ω
theorem cn.step{n:Net}{P:Nat->Nat->Prop}{i c:Nat}(h:cn n P i c)(hp:P i c):cn n P i (c+1):=λa b h1 h2 h3 h4=>by
 by_cases e:a=i/\b=c
 ·rw[e.1,e.2];exact hp
 ·exact h a b h1 h2 h3 ω
theorem cn.skip{n:Net}{P:Nat->Nat->Prop}{i c:Nat}(h:cn n P i c)(hm:au n i c=[]):cn n P i (c+1):=λa b h1 h2 h3 h4=>by
 by_cases e:a=i/\b=c
 ·rw[e.1,e.2,hm]at h3;exact absurd rfl h3
 ·exact h a b h1 h2 h3 ω
theorem cn.row{n:Net}{P:Nat->Nat->Prop}{i c:Nat}(h:cn n P i c)(hc:¬(c:Int)<(n.lines.getD i default).classes):cn n P (i+1) 0:=λa b h1 h2 h3 h4=>by
 refine h a b h1 h2 h3 ?_;rcases ζ a i with h5|h5
 ·exact .inl h5
 ·obtain rfl:a=i:=ω;exact .inr ⟨rfl,ω⟩
theorem cn.all{n:Net}{P:Nat->Nat->Prop}{i:Nat}(h:cn n P i 0)(hi:¬i<n.lines.length):Used n P:=λa b h1 h2 h3=>h a b h1 h2 h3 ω
structure DimOk(n:Net)(d:Xa):Prop where
 len:d.length=n.lines.length
 row:∀i:Nat,i<n.lines.length->((d.getD i []).length:Int)=(n.lines.getD i default).classes
theorem ShapeOk.dim{n:Net}{d:Xa}(h:ShapeOk n d):DimOk n d:=⟨h.len,h.row⟩
def ms(n:Net)(d e:Xa):Prop:=Used n (λi c=>0<=at2 d i c)/\Used n (λi c=>0<=at2 e i c/\at2 e i c<=at2 d i c)
def proofR:Option (Xa)->AV
 |some e=>.tup [a9 e,.bool true]
 |none=>.tup [.nils,.bool false]
def envOk(E:List (Nat×AV)):List Nat->List AV->Prop
 |[],[]=>True
 |k::ks,c::cs=>luS E k=some c/\envOk E ks cs
 |_,_=>False
theorem jn{E:List (Nat×AV)}:∀{ks:List Nat} {cs:List AV},envOk E ks cs->∀(i k:Nat) (c:AV),ks[i]? =some k->cs[i]? =some c->luS E k=some c
 |[],[],_,i,k,c,h,_=>by simp at h
 |[],_::_,h,_,_,_,_,_=>h.elim
 |_::_,[],h,_,_,_,_,_=>h.elim
 |k0::ks,c0::cs,h,0,k,c,h1,h2=>by cases h1;cases h2;exact h.1
 |k0::ks,c0::cs,h,i+1,k,c,h1,h2=>jn h.2 i k c (by simpa using h1) (by simpa using h2)
theorem uW{B:Xb}{a b:Nat}{x y:LObj}(h1:luB B a=some x)(h2:luB B b=some y):∀p∈[(a,x),(b,y)],luB B p.1=some p.2:=λp hp=>by
 rcases List.mem_cons.1 hp with rfl|hp
 ·exact h1
 ·rw[List.mem_singleton.1 hp];exact h2
theorem fam2(a b:Nat)(hab:a≠b)(x y:LObj)(hx:x.live=true)(hy:y.live=true)(cx:obCl [a,b] x)(cy:obCl [a,b] y):Fam [a,b] (λ_:Unit=>[(a,x),(b,y)]):=by
 refine⟨λ_=>rfl,List.nodup_cons.2 ⟨by simpa using hab,List.nodup_cons.2 ⟨by simp,List.nodup_nil⟩⟩,λ_ p hp=>?_,λ_ p hp=>?_⟩
 ·rcases List.mem_cons.1 hp with rfl|hp
  ·exact hx
  ·rw[List.mem_singleton.1 hp];exact hy
 ·rcases List.mem_cons.1 hp with rfl|hp
  ·exact cx
  ·rw[List.mem_singleton.1 hp];exact cy
theorem Fm(n:Net)(d e:Xa)(h:NetOk n)(hd:ShapeOk n d)(he:DimOk n e)(hstep:q0d 66 [n.av,a9 d] (.tup [a9 e,J 0])) :
  ∃x:Option (Xa),((x=some e/\ms n d e)\/(x=none/\¬ms n d e))/\q0d 47 [n.av,a9 d] (proofR x):=by
 have p0:=cN n d h hd;obtain⟨_,_,p1⟩:=uV n;have hf:=fam2 804 805 φ (.box [.nils]) (.box [.bool false]) rfl rfl rfl rfl;refine opE func47 ntmps47 results47 ?_ (hcl:=⟨rfl,rfl,by simp⟩) (hco:=λx=>⟨by cases x<;>rfl,by simp,rfl⟩);repeat'(first|(refine am [] [] [(804,4),(805,5)] [(2,.lptr 2 0),(3,.lptr 3 0),(4,.lptr 804 0),(5,.lptr 805 0)] [(2,some (.box n.cells)),(3,some (.box [a9 d])),(804,some (.box [.nils])),(805,some (.box [.bool false]))] ⟨⟨rfl,rfl⟩,sq1,sq1⟩ ?_;(conv=>whnf);(refine ax 2 rfl rfl rfl ?_ ?_ ?_;(solve|try refine' frzZ);(solve|try refine' frzZ));(conv=>whnf);(refine ax 3 rfl rfl rfl ?_ ?_ ?_;(solve|try refine' frzZ);(solve|try refine' frzZ));(conv=>whnf))|refine' ag|refine ab p0 ?_|refine ab p1 ?_)
 refine mr 801 n h rfl [2,3,4,5] [.ibox n.cells 0,.ibox [a9 d] 0,.lptr 804 0,.lptr 805 0] [18,19] rfl hf () ⟨rfl,rfl,rfl,⟨rfl,rfl,trivial⟩,rfl,jn ⟨rfl,rfl,rfl,rfl,trivial⟩,rfl,φ,φ⟩
  (λi c _=>cn n (λi c=>0<=at2 d i c) i c) (λm _=>(m=none/\Used n (λi c=>0<=at2 d i c))\/(m=some .ret/\¬Used n (λi c=>0<=at2 d i c)))
  (λi c _ hi hc hm hI=>?_) (λi c _ _ _ hm hI=>hI.skip hm) (λi c _ _ hc hI=>hI.row hc) (λi _ hi hI=>.inl ⟨rfl,hI.all hi⟩) (cn.zero _ _) ?_
 ·have hl1:=hd.len;have hl2:=hd.row i hi;have ei:(i:Int).toNat=i:=rfl;by_cases hp:at2 d i c<0
  ·skip;repeat'(first|(refine Λ hp λhb=>?_;conv=>whnf)|(refine Exists.intro _ (And.intro rfl ?_))|refine' ag|fail)
   all_goals try first|omega|(rw[ei];omega)
   exact fS hf rfl rfl () .ret (.inr ⟨rfl,λhu=>absurd (hu i c hi hc hm) ω⟩) rfl (uW rfl rfl)
  ·skip;repeat'(first|(refine Υ hp λhb=>?_;conv=>whnf)|(refine Exists.intro _ (And.intro rfl ?_))|refine' ag|fail)
   all_goals try first|omega|(rw[ei];omega)
   exact jA hf rfl rfl () (hI.step ω) rfl (uW rfl rfl)
 rintro m _ (⟨rfl,hu⟩|⟨rfl,hu⟩)
 ·conv=>whnf
  repeat'(first|(refine am [2,3,4,5] [804,805] [] [(8,.lptr 8 0),(9,J 0)] [(8,some (.box [a9 e]))] ⟨⟨rfl,rfl⟩,sq1,sq1⟩ ?_;(conv=>whnf);(refine ax 8 rfl rfl rfl ?_ ?_ ?_;(solve|try refine' frzZ);(solve|try refine' frzZ));(conv=>whnf))|refine' ag|refine ab hstep ?_|refine ab p1 ?_)
  refine mr 802 n h rfl [2,3,4,5,8] [.ibox n.cells 0,.ibox [a9 d] 0,.lptr 804 0,.lptr 805 0,.ibox [a9 e] 0] [38,39] rfl hf () ⟨rfl,rfl,rfl,⟨rfl,rfl,trivial⟩,rfl,jn ⟨rfl,rfl,rfl,rfl,rfl,trivial⟩,rfl,φ,φ⟩
   (λi c _=>cn n (λi c=>0<=at2 e i c/\at2 e i c<=at2 d i c) i c) (λm _=>(m=none/\Used n (λi c=>0<=at2 e i c/\at2 e i c<=at2 d i c))\/(m=some .ret/\¬Used n (λi c=>0<=at2 e i c/\at2 e i c<=at2 d i c)))
   (λi c _ hi hc hm hI=>?_) (λi c _ _ _ hm hI=>hI.skip hm) (λi c _ _ hc hI=>hI.row hc) (λi _ hi hI=>.inl ⟨rfl,hI.all hi⟩) (cn.zero _ _) ?_
  ·have hl1:=hd.len;have hl2:=hd.row i hi;have hl3:=he.len;have hl4:=he.row i hi;have ei:(i:Int).toNat=i:=rfl;by_cases hp:at2 e i c<0
   ·skip;repeat'(first|(refine Λ hp λhb=>?_;conv=>whnf)|(refine Exists.intro _ (And.intro rfl ?_))|refine' ag|fail)
    all_goals try first|omega|(rw[ei];omega)
    exact fS hf rfl rfl () .ret (.inr ⟨rfl,λhu=>absurd (hu i c hi hc hm).1 ω⟩) rfl (uW rfl rfl)
   ·by_cases hq:at2 e i c>at2 d i c
    ·skip;repeat'(first|(refine Λ hq λhb=>?_;conv=>whnf)|(refine Υ hp λhb=>?_;conv=>whnf)|(refine Exists.intro _ (And.intro rfl ?_))|refine' ag|fail)
     all_goals try first|omega|(rw[ei];omega)
     exact fS hf rfl rfl () .ret (.inr ⟨rfl,λhu=>absurd (hu i c hi hc hm).2 ω⟩) rfl (uW rfl rfl)
    ·skip;repeat'(first|(refine Υ hq λhb=>?_;conv=>whnf)|(refine Υ hp λhb=>?_;conv=>whnf)|(refine Exists.intro _ (And.intro rfl ?_))|refine' ag|fail)
     all_goals try first|omega|(rw[ei];omega)
     exact jA hf rfl rfl () (hI.step ⟨ω,ω⟩) rfl (uW rfl rfl)
  rintro m _ (⟨rfl,hu2⟩|⟨rfl,hu2⟩)
  ·conv=>whnf
   repeat'(first|refine' ag|fail)
   exact ac ⟨some e,rfl,.inl ⟨rfl,hu,hu2⟩⟩
  ·conv=>whnf
   exact ac ⟨none,rfl,.inr ⟨rfl,λhc=>hu2 hc.2⟩⟩
 ·conv=>whnf
  exact ac ⟨none,rfl,.inr ⟨rfl,λhc=>hu hc.1⟩⟩
theorem uX(n:Net)(d e:Xa)(h:NetOk n)(hd:ShapeOk n d)(he:DimOk n e)(hstep:q0d 66 [n.av,a9 d] (.tup [a9 e,J 0])) :
  ∃b:Bool,(b=true↔ms n d e)/\q0d 23 [n.av,a9 d] (.bool b):=by
 have p0:=Fm n d e h hd he hstep;refine opE func23 ntmps23 results23 ?_;rcases p0 with⟨x,(⟨rfl,hc⟩|⟨rfl,hc⟩),p0⟩
 ·skip;repeat'(first|refine' bk|refine ab p0 ?_)
  exact⟨true,rfl,λ_=>hc,λ_=>rfl⟩
 ·skip;repeat'(first|refine' bk|refine ab p0 ?_)
  exact⟨false,rfl,λh=>(by cases h),λh=>absurd h hc⟩
theorem dim_eq{n:Net}{d e:Xa}(hd:DimOk n d)(he:DimOk n e)(h:∀i j,i<d.length->j<(d.getD i []).length->at2 d i j=at2 e i j):d=e:=by
 refine List.ext_getElem (hd.len.trans he.len.symm) λi h1 h2=>?_;have e1:d.getD i []=d[i]:=by simp[h1]
 have e2:e.getD i []=e[i]:=by simp[h2]
 have hi:i<n.lines.length:=by rw[<-hd.len];exact h1
 have r1:=hd.row i hi;have r2:=he.row i hi;rw[<-e1,<-e2];refine List.ext_getElem ω λj h3 h4=>?_;have:=h i j h1 h3;unfold at2 at this;rw[ψ,ψ (l:=e.getD i []),β h3,β h4]at this;exact this
theorem Fn(n:Net)(h:NetOk n)(d e:Xa)(hd:DimOk n d)(he:DimOk n e):∃b:Bool,(b=true↔d=e)/\q0d 44 [a9 d,a9 e] (.bool b):=by
 have hdl:=hd.len;have hel:=he.len;have hnl:=h.len;have hcl:∀i:Nat,i<n.lines.length->(n.lines.getD i default).classes<=6:=λj hj=>(h.line _ (by simp[hj])).cls.2;refine opE func44 ntmps44 results44 ?_;repeat'(first|refine' ag|fail)
 all_goals try exact ariA
 refine ae (ι:={i:Nat//i<=d.length/\∀a b:Nat,a<i->b<(d.getD a []).length->at2 d a b=at2 e a b}) [0,1,8] [] [] ⟨0,π _,λa b ha=>ω⟩ (λ⟨i,_⟩=>d.length-i) (λ⟨i,_⟩=>[(9,J i)]) (λ_=>[]) ?_ ?_
 ·exact⟨⟨rfl,rfl⟩,sq1,sq1⟩
 ·rintro⟨i,hi,hI⟩;conv=>whnf
  by_cases hil:(i:Int)<d.length
  ·have ei : (i:Int).toNat=i:=rfl;have r1:=hd.row i ω;have r2:=he.row i ω;have r3:=hcl i ω;obtain⟨X,eX⟩:∃X,X=d.getD i []:=⟨_,rfl⟩;obtain⟨Y,eY⟩:∃Y,Y=e.getD i []:=⟨_,rfl⟩;rw[<-eX]at r1;rw[<-eY]at r2;have eXn:d.getD (i:Int).toNat []=X:=by rw[ei,eX]
   have eYn:e.getD (i:Int).toNat []=Y:=by rw[ei,eY]
   repeat'(first|(refine Λ hil λhb=>?_;conv=>whnf)|refine' ag|fail)
   all_goals try first|exact ariA|(rw[eXn];unfold ah;omega)|(rw[eYn];unfold ah;omega)
   refine ae (ι:={j:Nat//j<=X.length/\∀b:Nat,b<j->at2 d i b=at2 e i b}) [0,1,5,8,9] [] [] ⟨0,π _,λb hb=>ω⟩ (λ⟨j,_⟩=>X.length-j) (λ⟨j,_⟩=>[(16,J X.length),(17,J j)]) (λ_=>[]) ?_ ?_
   ·refine⟨⟨rfl,rfl⟩,?_,?_⟩;all_goals((refine' subP)<;>first|exact Ξ (by rw[eXn])|exact sq1)
   ·rintro⟨j,hj,hJ⟩;conv=>whnf
    by_cases hjl:(j:Int)<X.length
    ·by_cases hne:(d.getD (i:Int).toNat []).getD (j:Int).toNat 0=(e.getD (i:Int).toNat []).getD (j:Int).toNat 0
     ·have hJ':∀b:Nat,b<j+1->at2 d i b=at2 e i b:=λb hb=>by
       rcases ζ b j with h1|h1
       ·exact hJ b h1
       ·obtain rfl:b=j:=ω;exact hne
      repeat'(first|(refine ϕ hne λhb=>?_;conv=>whnf)|(refine Λ hjl λhb=>?_;conv=>whnf)|(exact aL [] ⟨j+1,ω,hJ'⟩)|refine' ag|fail)
      all_goals try first|exact ariA|(rw[eXn];omega)|(rw[eYn];omega)
     ·skip;repeat'(first|(refine ϑ hne λhb=>?_;conv=>whnf)|(refine Λ hjl λhb=>?_;conv=>whnf)|refine' ag|fail)
      all_goals try first|exact ariA|(rw[eXn];omega)|(rw[eYn];omega)
      all_goals exact ac ⟨false,rfl,λh=>(by cases h),λh=>absurd (by rw[h]) hne⟩
    ·have hI':∀a b:Nat,a<i+1->b<(d.getD a []).length->at2 d a b=at2 e a b:=λa b ha hq=>by
      rcases ζ a i with h1|h1
      ·exact hI a b h1 hq
      ·have hai:a=i:=ω;rw[hai];rw[hai,<-eX]at hq;exact hJ b ω
     repeat'(first|(refine Υ hjl λhb=>?_;conv=>whnf)|(exact aL [] ⟨i+1,ω,hI'⟩)|refine' ag|fail)
     all_goals try exact ariA
  ·skip;repeat'(first|(refine Υ hil λhb=>?_;conv=>whnf)|refine' ag|fail)
   exact ac ⟨true,rfl,λ_=>dim_eq hd he λi j h1 h2=>hI i j ω h2,λ_=>rfl⟩
def resV:Option (Xa)->AV
 |some d=>a9 d
 |none=>.nils
theorem Hf(ids:List Nat)(x:Option (Xa)):nmV ids (resV x)=true:=by cases x<;>rfl
def yy:Option (Xa×Nat)->Option (Xa)×Int×Int
 |some (d,k)=>(some d,k,0)
 |none=>(none,0,5)
def CG(x:Option (Xa×Nat)):AV:=.tup [resV (yy x).1,J (yy x).2.1,J (yy x).2.2]
def jP(n:Net)(D:Nat->Xa)(k:Nat):Prop:=∀j,1<=j->j<=k->Used n (λi c=>0<=at2 (D j) i c)/\D (j-1)≠D j
def kg(n:Net)(D:Nat->Xa)(rounds:Nat):Option (Xa×Nat)->Prop
 |some (d,k)=>1<=k/\k<=rounds/\d=D k/\jP n D (k-1)/\Used n (λi c=>0<=at2 (D k) i c)/\D (k-1)=D k
 |none=>(∃k,1<=k/\k<=rounds/\jP n D (k-1)/\¬Used n (λi c=>0<=at2 (D k) i c))\/jP n D rounds
theorem jP.next{n:Net}{D:Nat->Xa}{k:Nat}(h:jP n D k)(hu:Used n (λi c=>0<=at2 (D (k+1)) i c))(hd:D k≠D (k+1)):jP n D (k+1):=λj h1 h2=>by
 rcases ζ k j with h3|h3
 ·obtain rfl:j=k+1:=ω;exact⟨hu,hd⟩
 ·exact h j h1 h3
def yz(s:Xa×Int×Option (Xa)×Int×Int):Xc :=
 [(804,.box [resV s.2.2.1]),(805,.box [J s.2.2.2.1]),(806,.box [J s.2.2.2.2]),(807,.box [a9 s.1]),(808,.box [J s.2.1])]
theorem lv:Fam [804,805,806,807,808] yz:=by
 refine⟨λ_=>rfl,φ,λs p hp=>?_,λs p hp=>?_⟩;all_goals
  unfold yz at hp;simp only[List.mem_cons,List.not_mem_nil,or_false]at hp;rcases hp with rfl|rfl|rfl|rfl|rfl
 all_goals first|rfl|(show nmL _ [resV _]=true;unfold nmL;rw[Hf];rfl)
def sS(last nx:Xa)(count e:Int):Xc:=[(804,.box [.nils]),(805,.box [J 0]),(806,.box [J e]),(807,.box [a9 last]),(808,.box [J count]),(809,.box [a9 nx])]
theorem oR(last nx:Xa)(count:Int):Fam [804,805,806,807,808,809] (sS last nx count):=by
 refine⟨λ_=>rfl,φ,λs p hp=>?_,λs p hp=>?_⟩;all_goals
  unfold sS at hp;simp only[List.mem_cons,List.not_mem_nil,or_false]at hp;rcases hp with rfl|rfl|rfl|rfl|rfl|rfl
 all_goals rfl
theorem sT{B:Xb}{s:Xa×Int×Option (Xa)×Int×Int}(h1:luB B 804=some (.box [resV s.2.2.1]))(h2:luB B 805=some (.box [J s.2.2.2.1]))(h3:luB B 806=some (.box [J s.2.2.2.2]))(h4:luB B 807=some (.box [a9 s.1]))(h5:luB B 808=some (.box [J s.2.1])):∀p∈yz s,luB B p.1=some p.2:=λp hp=>by
 unfold yz at hp;simp only[List.mem_cons,List.not_mem_nil,or_false]at hp;rcases hp with rfl|rfl|rfl|rfl|rfl<;>assumption
theorem y5{B:Xb}{last nx:Xa}{count e:Int}(h1:luB B 804=some (.box [.nils]))(h2:luB B 805=some (.box [J 0]))(h3:luB B 806=some (.box [J e]))(h5:luB B 807=some (.box [a9 last]))(h6:luB B 808=some (.box [J count]))(h4:luB B 809=some (.box [a9 nx])):∀p∈sS last nx count e,luB B p.1=some p.2:=λp hp=>by
 unfold sS at hp;simp only[List.mem_cons,List.not_mem_nil,or_false]at hp;rcases hp with rfl|rfl|rfl|rfl|rfl|rfl<;>assumption
theorem CH(n:Net)(h:NetOk n)(rounds:Nat)(hr1:1<=rounds)(hr2:rounds<=60)(D:Nat->Xa)(h0:D 0=mX n (λ_ _=>0))(hD:∀k,k<=rounds->DimOk n (D k))(hstep:∀k,k<rounds->q0d 66 [n.av,a9 (D k)] (.tup [a9 (D (k+1)),J 0])) :
  ∃x,kg n D rounds x/\q0d 21 [n.av,J rounds] (CG x):=by
 have p0:=il n h;have p1:=Cp n h;obtain⟨_,_,p2⟩:=uV n;obtain⟨_,_,p3⟩:=Aq n (D 0);have hz:AvLe (.isl n.lines.length 1 (λi=>dh (rowF n (λ_ _=>0) i))) (a9 (D 0)):=by
  rw[h0];exact Γ (gY n _).symm λi hi=>by rw[dV n _ hi]
 refine opE func21 ntmps21 results21 ?_ (hcl:=⟨rfl,rfl,by simp⟩) (hco:=λx=>⟨by rcases x with _|⟨d,k⟩<;>rfl,by simp,rfl⟩);repeat'(first|(refine am [] [] [(804,4),(805,5),(806,6),(807,7),(808,8)] [(2,.lptr 2 0),(3,.lptr 3 0),(4,.lptr 804 0),(5,.lptr 805 0),(6,.lptr 806 0),(7,.lptr 807 0),(8,.lptr 808 0)] [(2,some (.box n.cells)),(3,some (.box [J rounds])),(804,some (.box [.nils])),(805,some (.box [J 0])),(806,some (.box [J 0])),(807,some (.box [.osl 12 n.lines.length])),(808,some (.box [J 0])),(12,some (.arr n.lines.length 1 (λi=>dh (rowF n (λ_ _=>0) i)) 22))] ⟨⟨rfl,rfl⟩,?_,?_⟩ ?_;(solve|((refine' subP)<;>first|exact ObLe.box (.cons hz .nil)|exact sq1));(solve|((refine' subP)<;>first|exact ObLe.box (.cons hz .nil)|exact sq1));(conv=>whnf);(refine ax 2 rfl rfl rfl ?_ ?_ ?_;(solve|try refine' frzZ);(solve|try refine' frzZ));(conv=>whnf);(refine ax 3 rfl rfl rfl ?_ ?_ ?_;(solve|try refine' frzZ);(solve|try refine' frzZ));(conv=>whnf);(refine ax 12 rfl rfl (λ_ _=>rfl) ?_ ?_ ?_;(solve|try refine' frzZ);(solve|try refine' frzZ));(conv=>whnf);(refine am [2,3,4,5,6,7,8] [804,805,806,808] [] [] [(807,some (.box [a9 (D 0)]))] ⟨⟨rfl,rfl⟩,?_,?_⟩ ?_;(solve|((refine' subP)<;>first|exact ObLe.box (.cons hz .nil)|exact sq1));(solve|((refine' subP)<;>first|exact ObLe.box (.cons hz .nil)|exact sq1)));(conv=>whnf))|refine' ag|refine ab p0 ?_|(refine cO p1 rfl ?_;conv=>whnf)|(refine cO p3 rfl ?_;conv=>whnf))
 all_goals try first|omega|(exfalso;omega)
 have hr3:(0:Nat)<rounds:=hr1;refine xa 801 n rfl [2,3,4,5,6,7,8] [.ibox n.cells 0,.ibox [J rounds] 0,.lptr 804 0,.lptr 805 0,.lptr 806 0,.lptr 807 0,.lptr 808 0] [27,28] rfl lv (D 0,0,none,0,0) ⟨rfl,rfl,rfl,⟨rfl,rfl,rfl,rfl,rfl,trivial⟩,rfl,jn ⟨rfl,rfl,rfl,rfl,rfl,rfl,rfl,trivial⟩,rfl,φ,φ⟩ φ
  rounds D hstep rfl (λk s=>s=(D k,(k:Int),none,0,0)/\jP n D k)
  (λm s=>(m=some .ret/\∃x,kg n D rounds x/\s.2.2=yy x)\/(m=some (.exit 0)/\s.2.2=(none,0,0)/\kg n D rounds none)) ?_ hr3 ⟨rfl,λj h1 h2=>ω⟩ ?_
 ·rintro k s hk ⟨rfl,hG⟩;have hk2:(k:Int)+1<=60:=ω;refine gvE ?_;conv=>whnf
  refine gvE ?_;conv=>whnf
  refine⟨_,rfl,?_⟩;repeat'(first|(refine am [2,3,4,5,6,7,8,10] [801,804,805,806,807,808] [(809,9)] [(9,.lptr 809 0)] [(809,some (.box [a9 (D (k+1))]))] ⟨⟨rfl,rfl⟩,sq1,sq1⟩ ?_;conv=>whnf)|refine' ag|refine ab p2 ?_)
  all_goals try first|omega|(exfalso;omega)|(unfold ah;dsimp only;omega)
  have hdm:=hD (k+1) ω;refine mr 802 n h rfl [2,3,4,5,6,7,8,9,10] [.ibox n.cells 0,.ibox [J rounds] 0,.lptr 804 0,.lptr 805 0,.lptr 806 0,.lptr 807 0,.lptr 808 0,.lptr 809 0,J 0] [36,37] rfl (oR (D k) (D (k+1)) ((k:Int)+1)) 0 ⟨rfl,rfl,rfl,⟨rfl,rfl,rfl,rfl,rfl,rfl,trivial⟩,rfl,jn ⟨rfl,rfl,rfl,rfl,rfl,rfl,rfl,rfl,rfl,trivial⟩,rfl,φ,φ⟩
   (λi c e=>e=0/\cn n (λi c=>0<=at2 (D (k+1)) i c) i c) (λm e=>(m=none/\e=0/\Used n (λi c=>0<=at2 (D (k+1)) i c))\/(m=some .ret/\e=5/\¬Used n (λi c=>0<=at2 (D (k+1)) i c)))
   (λi c e hi hc hm hI=>?_) (λi c e _ _ hm hI=>⟨hI.1,hI.2.skip hm⟩) (λi c e _ hc hI=>⟨hI.1,hI.2.row hc⟩) (λi e hi hI=>.inl ⟨rfl,hI.1,hI.2.all hi⟩) ⟨rfl,cn.zero _ _⟩ ?_
  ·obtain⟨rfl,hI⟩:=hI;have hl3:=hdm.len;have hl4:=hdm.row i hi;have ei:(i:Int).toNat=i:=rfl;by_cases hp:at2 (D (k+1)) i c<0
   ·skip;repeat'(first|(refine Λ hp λhb=>?_;conv=>whnf)|(refine Exists.intro _ (And.intro rfl ?_))|refine' ag|fail)
    all_goals try first|omega|(rw[ei];omega)
    exact fS (s:=5) (oR (D k) (D (k+1)) ((k:Int)+1)) rfl rfl .ret (.inr ⟨rfl,rfl,λhu=>absurd (hu i c hi hc hm) ω⟩) rfl (y5 rfl rfl rfl rfl rfl rfl)
   ·skip;repeat'(first|(refine Υ hp λhb=>?_;conv=>whnf)|(refine Exists.intro _ (And.intro rfl ?_))|refine' ag|fail)
    all_goals try first|omega|(rw[ei];omega)
    exact jA (s:=0) (oR (D k) (D (k+1)) ((k:Int)+1)) rfl rfl ⟨rfl,hI.step ω⟩ rfl (y5 rfl rfl rfl rfl rfl rfl)
  rintro m e (⟨rfl,rfl,hu⟩|⟨rfl,rfl,hu⟩)
  ·conv=>whnf
   obtain⟨b,hb,p4⟩:=Fn n h (D k) (D (k+1)) (hD k ω) hdm;by_cases hs:D k=D (k+1)
   ·have hbt:=hb.2 hs;subst hbt;repeat'(first|refine' ag|refine ab p4 ?_)
    all_goals try first|omega|(unfold ah;dsimp only;omega)
    exact fS (s:=(D k,(k:Int)+1,some (D (k+1)),(k:Int)+1,0)) lv rfl rfl .ret (.inl ⟨rfl,some (D (k+1),k+1),⟨ω,ω,rfl,hG,hu,hs⟩,rfl⟩) rfl (sT rfl rfl rfl rfl rfl)
   ·have hbf:b=false:=by
     cases b with
     |false=>rfl
     |true=>exact absurd (hb.1 rfl) hs
    subst hbf;by_cases hk:(k:Int)+1=rounds
    ·skip;repeat'(first|(refine Λ hk λhb=>?_;conv=>whnf)|refine' ag|refine ab p4 ?_)
     all_goals try first|omega|(unfold ah;dsimp only;omega)
     exact fS (s:=(D k,(k:Int)+1,none,0,0)) lv rfl rfl (.exit 0) (.inr ⟨rfl,rfl,.inr (by rw[(ω:rounds=k+1)];exact hG.next hu hs)⟩) rfl (sT rfl rfl rfl rfl rfl)
    ·skip;repeat'(first|(refine Υ hk λhb=>?_;conv=>whnf)|refine' ag|refine ab p4 ?_)
     all_goals try first|omega|(unfold ah;dsimp only;omega)
     exact jA (s:=(D (k+1),(k:Int)+1,none,0,0)) lv rfl rfl ⟨ω,rfl,hG.next hu hs⟩ rfl (sT rfl rfl rfl rfl rfl)
  ·conv=>whnf
   exact fS (s:=(D k,(k:Int)+1,none,0,5)) lv rfl rfl .ret (.inl ⟨rfl,none,.inl ⟨k+1,ω,ω,hG,hu⟩,rfl⟩) rfl (sT rfl rfl rfl rfl rfl)
 ·rintro d m ⟨last,count,r⟩ (⟨rfl,x,hx,hs⟩|⟨rfl,hs,hx⟩)
  ·conv=>whnf
   dsimp only at hs;subst hs;exact ac ⟨x,rfl,hx⟩
  ·conv=>whnf
   repeat'(first|refine' ag|fail)
   dsimp only at hs;subst hs;exact ac ⟨none,rfl,hx⟩
end Go.Nc