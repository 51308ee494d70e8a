/- Parts. -/
import Derived.Test.YtbdkgpcdkalfdaaGreatNcEB
import Derived.Test.YtbdkgpcdkalfdaaGreatNcJC
namespace Go.Nc
open Go.Proofs.Tryz
open Go.Proofs
set_option maxHeartbeats 8000000
theorem Id{ids:List Nat}{yid:Nat}(h:yid∈ids):nmV ids (.yld yid)=true:=by
 unfold nmV;exact List.elem_eq_true_of_mem h
theorem nl{pid:List Nat}{nt:Nat}{A:St}{env:List (Nat×AV)}{L:Xc}(ids:List Nat)(hL:L.map (·.1)=ids)(hp:∀i∈pid,i∈ids)(ho:∀p∈L,luB A.objs p.1=some p.2)(hcl:∀p∈L,obCl ids p.2)(he:AP A.env ids env):cr pid nt A ⟨env,bb L⟩:=by
 subst hL;exact xI hp ho hcl he
section
variable {σ:Type} {ids:List Nat} {O:σ->Xc}
theorem Fam.ghost0(hf:Fam ids O){nt:Nat}{A:St}{env:List (Nat×AV)}(s:σ)(ho:∀p∈O s,luB A.objs p.1=some p.2)(he:AP A.env ids env):cr ids nt A ⟨env,bb (O s)⟩ :=
 nl ids (hf.same s) (λ_ h=>h) ho (hf.cl s) he
theorem Fam.ghost1(hf:Fam ids O){nt:Nat}{A:St}{env:List (Nat×AV)}(k:Nat)(ob:LObj)(s:σ)(hk:luB A.objs k=some ob)(hc:obCl (k::ids) ob)(ho:∀p∈O s,luB A.objs p.1=some p.2)(he:AP A.env (k::ids) env):cr ids nt A ⟨env,(k,some ob)::bb (O s)⟩:=by
 refine nl (L:=(k,ob)::O s) (k::ids) (by rw[List.map_cons,hf.same]) (λi hi=>by simp[hi]) (λp hp=>?_) (λp hp=>?_) he
 ·rcases List.mem_cons.1 hp with rfl|hp
  ·exact hk
  ·exact ho p hp
 ·rcases List.mem_cons.1 hp with rfl|hp
  ·exact hc
  ·exact lB (λi hi=>by simp[hi]) (hf.cl s p hp)
theorem Fam.at1(hf:Fam ids O){k:Nat}(hk:k∉ids)(x:Option LObj)(s:σ){B:Xb}(h:∀p∈O s,luB B p.1=some p.2):∀p∈O s,luB ((k,x)::B) p.1=some p.2:=λp hp=>by
 rw[gC,if_neg λe=>hk (by rw[<-e,<-hf.same s];exact List.mem_map.2 ⟨p,hp,rfl⟩)];exact h p hp
theorem Fam.at0(hf:Fam ids O)(s:σ):∀p∈O s,luB (bb (O s)) p.1=some p.2:=λp hp=>by rw[pu,hf.lu s p hp]
end
theorem De{σ:Type}{ids:List Nat}{O:σ->Xc}(hf:Fam ids O)(hid:∀i∈ids,800<=i)(yid:Nat)(hy:yid∈ids)(n:Net)(h:NetOk n)(I:Nat->Nat->σ->Prop)(E:σ->Prop)
  (hyield:∀(i c:Nat) (s:σ),i<n.lines.length->(c:Int)<(n.lines.getD i default).classes->a8 n i c≠[]->I i c s->∃b outs,(∃s',outs=O s'/\(b=true->I i (c+1) s')/\(b=false->E s'))/\YSpec prog yid [J i,J c] (O s) b outs)
  (hskip:∀(i c:Nat) (s:σ),i<n.lines.length->(c:Int)<(n.lines.getD i default).classes->a8 n i c=[]->I i c s->I i (c+1) s)
  (hrow:∀(i c:Nat) (s:σ),i<n.lines.length->¬(c:Int)<(n.lines.getD i default).classes->I i c s->I (i+1) 0 s)
  (hend:∀(i:Nat) (s:σ),¬i<n.lines.length->I i 0 s->E s) (s0:σ) (h0:I 0 0 s0) :
  ∃s,E s/\q0c 232 [.yld yid,.ibox n.cells 0] (O s0) (.tup []) (O s):=by
 have hln:=h.len;have hfl:=h.flen;have n4:4∉ids:=λe=>by have:=hid 4 e;omega
 have f4:∀s,luB (bb (O s)) 4=none:=λs=>by rw[pu];exact hf.free s n4
 have hyn:=Id hy;have hyn4:=Id (List.mem_cons_of_mem 4 hy);refine opE func232 ntmps232 results232 ?_ (hcl:=⟨hf.liveB s0,by rw[hf.same];simp only[nmL,Id hy];rfl,hf.clB s0⟩) (hco:=λs=>⟨rfl,hf.clB s,List.all_eq_true.2 λp hp=>List.elem_eq_true_of_mem (by rw[hf.same,<-hf.same s0];exact List.mem_map.2 ⟨p,hp,rfl⟩)⟩);rw[hf.same];repeat'(first|refine' aj|fail)
 all_goals try exact ariA
 refine mi (ι:={p:Nat×σ//p.1<=n.lines.length/\I p.1 0 p.2}) (λ⟨(i,s),_⟩=>⟨[(0,.yld yid),(1,.ibox n.cells 0),(7,slc 5 Line.cells default n.lines),(8,J n.lines.length),(9,J i)],(4,none)::bb (O s)⟩) (λ⟨(i,_),_⟩=>n.lines.length-i) ⟨(0,s0),π _,h0⟩ ?_ ?_
 ·refine(hf.ghost0 s0 (hf.at0 s0) ?_).trans (py (f4 s0));exact⟨⟨hyn,Ψ⟩,⟨rfl,Ψ⟩,⟨rfl,Ψ⟩,⟨rfl,Ψ⟩,⟨rfl,Ψ⟩,trivial⟩
 rintro⟨⟨i,s⟩,hi,hI⟩;dsimp only at hi hI;conv=>whnf
 by_cases hil:(i:Int)<n.lines.length
 ·skip;repeat'(first|(refine Λ hil λhb=>?_;conv=>whnf)|refine' aj|fail)
  all_goals try exact ariA
  refine mi (ι:={p:Nat×σ//(p.1:Int)<=max 0 (n.lines.getD i default).classes/\I i p.1 p.2}) (λ⟨(c,s),_⟩=>⟨[(0,.yld yid),(1,.ibox n.cells 0),(3,J i),(7,slc 5 Line.cells default n.lines),(8,J n.lines.length),(9,J i),(15,J (n.lines.getD i default).classes),(16,J c)],(4,some (.box (n.lines.getD i default).cells))::bb (O s)⟩) (λ⟨(c,_),_⟩=>(n.lines.getD i default).classes.toNat-c) ⟨(0,s),κ,hI⟩ ?_ ?_
  ·refine hf.ghost1 4 _ s ?_ ?_ ?_ ?_
   ·rfl
   ·rfl
   ·exact hf.at1 n4 _ s (hf.at1 n4 _ s (hf.at1 n4 _ s (hf.at0 s)))
   ·exact⟨⟨hyn4,Ψ⟩,⟨rfl,Ψ⟩,⟨rfl,Ψ⟩,⟨rfl,Ψ⟩,⟨rfl,Ψ⟩,⟨rfl,Ψ⟩,⟨rfl,Ψ⟩,⟨rfl,Ψ⟩,trivial⟩
  rintro⟨⟨c,s⟩,hc,hI⟩;dsimp only at hc hI;have hc6:=(h.line (n.lines.getD i default) (by rw[ψ,β ω];exact List.getElem_mem _)).cls;conv=>whnf
  by_cases hcl:(c:Int)<(n.lines.getD i default).classes
  ·have pm:=cK n i c ω (λj hj=>by have:=(h.flow _ (List.getElem_mem hj)).ne;rw[ψ,β hj];dsimp only[Option.getD_some];omega);by_cases hm:a8 n i c=[]
   ·have hm0:¬0<((a8 n i c).length:Int):=by rw[hm];decide
    repeat'(first|(refine Υ hm0 λhb=>?_;conv=>whnf)|(refine Λ hcl λhb=>?_;conv=>whnf)|refine' aj|refine ab pm ?_)
    all_goals try exact ariA
    refine⟨⟨(c+1,s),κ,hskip i c s ω hcl hm hI⟩,hf.ghost1 4 _ s rfl rfl (hf.at1 n4 _ s (hf.at0 s)) ?_,κ⟩;exact⟨⟨hyn4,Ψ⟩,⟨rfl,Ψ⟩,⟨rfl,Ψ⟩,⟨rfl,Ψ⟩,⟨rfl,Ψ⟩,⟨rfl,Ψ⟩,⟨rfl,Ψ⟩,⟨rfl,Ψ⟩,trivial⟩
   ·have hm0:0<((a8 n i c).length:Int):=by
     rcases hl:a8 n i c with _|⟨x,l⟩
     ·exact absurd hl hm
     ·simp only[List.length_cons];omega
    obtain⟨b,outs,⟨s',rfl,ht,hff⟩,hY⟩:=hyield i c s ω hcl hm hI;repeat'(first|(refine Λ hm0 λhb=>?_;conv=>whnf)|(refine Λ hcl λhb=>?_;conv=>whnf)|refine' aj|refine ab pm ?_)
    all_goals try exact ariA
    refine vYield.mk ⟨b,O s,O s',hY,iq (hf.at1 n4 _ s (hf.at0 s)),hf.outs hf s s' _,?_⟩;refine FO ?_;have hat:∀p∈O s',luB (bb (O s')++(4,some (LObj.box (n.lines.getD i default).cells))::bb (O s)) p.1=some p.2:=hf.luBA s' _;have h4:luB (bb (O s')++(4,some (LObj.box (n.lines.getD i default).cells))::bb (O s)) 4=some (LObj.box (n.lines.getD i default).cells):=by
     rw[vD,hf.free s' n4];rfl
    cases b with
    |true=>
     repeat'(first|refine' aj|fail)
     all_goals try exact ariA
     refine⟨⟨(c+1,s'),κ,ht rfl⟩,hf.ghost1 4 _ s' h4 rfl hat ?_,κ⟩;exact⟨⟨hyn4,Ψ⟩,⟨rfl,Ψ⟩,⟨rfl,Ψ⟩,⟨rfl,Ψ⟩,⟨rfl,Ψ⟩,⟨rfl,Ψ⟩,⟨rfl,Ψ⟩,⟨rfl,Ψ⟩,trivial⟩
    |false=>
     repeat'(first|refine' aj|fail)
     exact⟨s',hff rfl,λw0 Im0 ρ0=>⟨_,Ghost.rfl,Ψ,iq hat⟩⟩
  ·skip;repeat'(first|(refine Υ hcl λhb=>?_;conv=>whnf)|refine' aj|fail)
   all_goals try exact ariA
   refine⟨⟨(i+1,s),κ,hrow i c s ω hcl hI⟩,(hf.ghost0 s (hf.at1 n4 _ s (hf.at0 s)) ?_).trans (py (f4 s)),κ⟩;exact⟨⟨hyn,Ψ⟩,⟨rfl,Ψ⟩,⟨rfl,Ψ⟩,⟨rfl,Ψ⟩,⟨rfl,Ψ⟩,trivial⟩
 ·skip;repeat'(first|(refine Υ hil λhb=>?_;conv=>whnf)|refine' aj|fail)
  exact⟨s,hend i s ω hI,λw0 Im0 ρ0=>⟨_,Ghost.rfl,Ψ,iq (hf.at1 n4 none s (hf.at0 s))⟩⟩
theorem Df(n:Net):∃_:Unit,True/\q0d 184 [n.av] (.fn 232 [.ibox n.cells 0]):=by
 refine opE func184 ntmps184 results184 ?_;repeat'(first|refine' aj|fail)
 refine bg [2] [] [] [] [(1,some (.box n.cells))] ⟨⟨rfl,rfl⟩,?_,?_⟩ (bm 1 rfl rfl rfl ?_ ?_ (ag ?_))
 ·skip;all_goals exact sq1
 ·skip;all_goals exact sq1
 ·all_goals try refine' frzZ
 ·all_goals try refine' frzZ
 ·conv=>whnf
  exact⟨(),rfl,trivial⟩
def recM(m:Option Code)(ks:List Nat)(cs:List AV)(ps:Array Tmp)(assign body:Code)(nt:Nat):LObj:=match m with
 |none=>.lrec .ready none ks cs ps assign body nt
 |some c=>.lrec .done (some c) ks cs ps assign body nt
section
variable {σ:Type} {lids:List Nat} {L:σ->Xc}
theorem recFam(hL:Fam lids L){yid:Nat}(hy:yid∉lids){ks:List Nat}{cs:List AV}{ps:Array Tmp}{assign body:Code}{nt:Nat}(hc:nmL (yid::lids) cs=true):Fam (yid::lids) (λx:σ×Option Code=>(yid,recM x.2 ks cs ps assign body nt)::L x.1):=by
 refine⟨λx=>by rw[List.map_cons,hL.same],List.nodup_cons.2 ⟨hy,hL.nd⟩,λx p hp=>?_,λx p hp=>?_⟩
 ·rcases List.mem_cons.1 hp with rfl|hp
  ·obtain⟨s,m⟩:=x;cases m<;>rfl
  ·exact hL.live _ p hp
 ·rcases List.mem_cons.1 hp with rfl|hp
  ·obtain⟨s,m⟩:=x;cases m<;>exact hc
  ·exact lB (λi hi=>List.mem_cons_of_mem _ hi) (hL.cl _ p hp)
def Dg(yid nt:Nat)(ks:List Nat)(cs:List AV)(ps:Array Tmp)(assign body:Code)(L:σ->Xc)(G:σ->Prop)(E:Option Code->σ->Prop)(b:Bool)(outs:Xc):Prop :=
 ∃(s:σ) (m:Option Code),outs=(yid,recM m ks cs ps assign body nt)::L s/\(b=true->m=none/\G s)/\(b=false->E m s)
theorem rL{pid:List Nat}(hL:Fam lids L){yid nt:Nat}{ks:List Nat}{cs:List AV}{ps:Array Tmp}{assign body:Code}{G:σ->Prop}{E:Option Code->σ->Prop}{B:St}(hpid:pid=yid::lids)(hc:nmL (yid::lids) cs=true)(s:σ)(hG:G s)
  (hy:luB B.objs yid=some (.lrec .busy none ks cs ps assign body nt)) (ho:∀p∈L s,luB B.objs p.1=some p.2):RFin pid nt yid ks ps assign body .ready none true (Dg yid nt ks cs ps assign body L G E) B:=by
 subst hpid;refine⟨⟨B.env,B.objs⟩,cs,L s,cr.rfl,hy,iq ho,⟨λp hp=>?_,?_⟩,s,none,rfl,λ_=>⟨rfl,hG⟩,λh=>(by cases h)⟩
 ·rw[List.map_cons,hL.same];rcases List.mem_cons.1 hp with rfl|hp
  ·exact hc
  ·exact lB (λi hi=>List.mem_cons_of_mem _ hi) (hL.cl _ p hp)
 ·rw[List.map_cons,hL.same];exact List.all_eq_true.2 λi hi=>List.elem_eq_true_of_mem hi
theorem pA{pid:List Nat}(hL:Fam lids L){yid nt:Nat}{ks:List Nat}{cs:List AV}{ps:Array Tmp}{assign body:Code}{G:σ->Prop}{E:Option Code->σ->Prop}{B:St}(hpid:pid=yid::lids)(hc:nmL (yid::lids) cs=true)(s:σ)(c:Code)(hE:E (some c) s)
  (hy:luB B.objs yid=some (.lrec .busy none ks cs ps assign body nt)) (ho:∀p∈L s,luB B.objs p.1=some p.2):RFin pid nt yid ks ps assign body .done (some c) false (Dg yid nt ks cs ps assign body L G E) B:=by
 subst hpid;refine⟨⟨B.env,B.objs⟩,cs,L s,cr.rfl,hy,iq ho,⟨λp hp=>?_,?_⟩,s,some c,rfl,λh=>(by cases h),λ_=>hE⟩
 ·rw[List.map_cons,hL.same];rcases List.mem_cons.1 hp with rfl|hp
  ·exact hc
  ·exact lB (λi hi=>List.mem_cons_of_mem _ hi) (hL.cl _ p hp)
 ·rw[List.map_cons,hL.same];exact List.all_eq_true.2 λi hi=>List.elem_eq_true_of_mem hi
structure RangeOk(A:St)(pid:List Nat)(nt yid:Nat)(ks:List Nat)(cs:List AV)(ps:Array Tmp)(psl:List Nat)(lids:List Nat)(L0:Xc):Prop where
 pse:ps.toList=psl
 plt:(psl.all λp=>Nat.blt p nt)=true
 free:luB A.objs yid=none
 ins:dK A.o L0
 len:ks.length=cs.length
 env:∀(i k:Nat) (c:AV),ks[i]? =some k->cs[i]? =some c->luS A.env k=some c
 cl:nmL (yid::lids) cs=true
 hi:∀i∈yid::lids,800<=i
 nin:yid∉lids
theorem Ie{A:St}{nt yid:Nat}{ks:List Nat}{cs:List AV}{ps:Array Tmp}{assign body:Code}(hL:Fam lids L)(s0 s:σ)(m:Option Code){K:Exit->St->Prop}
  (h:FN m K ⟨zipE ks cs,(yid,some .dead)::(bb (L s)++A.objs)⟩):RangeK A yid nt ks ps assign body (L s0) ((yid,recM m ks cs ps assign body nt)::L s) K:=by
 cases m with
 |none=>exact⟨.ready,none,cs,L s,rfl,(by intro e;cases e),hL.outs hL s0 s _,h⟩
 |some c=>exact⟨.done,some c,cs,L s,rfl,(by intro e;cases e),hL.outs hL s0 s _,h⟩
theorem rM{pid:List Nat}{nt:Nat}{A:St}{g:Operand}{ps:Array Tmp}{assign body:Code}{K:Exit->St->Prop}(yid:Nat)(n:Net)(h:NetOk n)(hg:opdV A.s g=some (.fn 232 [.ibox n.cells 0]))(ks:List Nat)(cs:List AV)(psl:List Nat)(hpl:psl.length=2)
  (hL:Fam lids L) (s0:σ) (hok:RangeOk A pid nt yid ks cs ps psl lids (L s0)) (I:Nat->Nat->σ->Prop) (E:Option Code->σ->Prop)
  (hround:∀(i c:Nat) (s:σ),i<n.lines.length->(c:Int)<(n.lines.getD i default).classes->a8 n i c≠[]->I i c s->
   GoodE prog (yid::lids) nt assign ⟨parE psl [J i,J c] (zipE ks cs),(yid,some (.lrec .ready none ks cs ps assign body nt))::bb (L s)⟩ (asgE prog (yid::lids) nt yid ks ps assign body (Dg yid nt ks cs ps assign body L (I i (c+1)) E)))
  (hskip:∀(i c:Nat) (s:σ),i<n.lines.length->(c:Int)<(n.lines.getD i default).classes->a8 n i c=[]->I i c s->I i (c+1) s)
  (hrow:∀(i c:Nat) (s:σ),i<n.lines.length->¬(c:Int)<(n.lines.getD i default).classes->I i c s->I (i+1) 0 s)
  (hend:∀(i:Nat) (s:σ),¬i<n.lines.length->I i 0 s->E none s) (h0:I 0 0 s0)
  (hK:∀m s,E m s->FN m K ⟨zipE ks cs,(yid,some .dead)::(bb (L s)++A.objs)⟩):LoopE prog pid nt (.rangeFunc g ps assign body) A K:=by
 have hF:=recFam hL hok.nin (ks:=ks) (ps:=ps) (assign:=assign) (body:=body) (nt:=nt) hok.cl;refine xF (α:=σ×Option Code) (r:=λ_=>.tup []) (outs:=λx=>(yid,recM x.2 ks cs ps assign body nt)::L x.1) (Q:=λx=>E x.2 x.1) yid hg hok.free (L s0) hok.ins ks cs hok.len hok.env ?_ λx hx=>Ie hL s0 x.1 x.2 (hK x.2 x.1 hx);refine De hF hok.hi yid List.mem_cons_self n h (λi c x=>x.2=none/\I i c x.1) (λx=>E x.2 x.1) (λi c x hi hc hm hI=>?_) (λi c x hi hc hm hI=>⟨hI.1,hskip i c x.1 hi hc hm hI.2⟩) (λi c x hi hc hI=>⟨hI.1,hrow i c x.1 hi hc hI.2⟩)
  (λi x hi hI=>by rw[hI.1];exact hend i x.1 hi hI.2) (s0,none) ⟨rfl,h0⟩
 obtain⟨s,m⟩:=x;obtain⟨rfl,hI⟩:=hI;have hr:=hround i c s hi hc hm hI;rw[show yid::lids=yid::(L s).map (·.1) by rw[hL.same]]at hr;obtain⟨b,outs,⟨s',m',rfl,q1,q2⟩,hY⟩:=FM (cs:=cs) (L:=L s) hok.pse (by rw[hpl];rfl) hok.plt ⟨hL.liveB s,rfl,by rw[hL.same];exact hok.cl,λp hp=>by rw[hL.same];exact lB (λi hi=>List.mem_cons_of_mem _ hi) (hL.cl s p hp)⟩ hr;exact⟨b,_,⟨(s',m'),rfl,λhb=>q1 hb,q2⟩,hY⟩
end
def at2(d:Xa)(i c:Nat):Int:=(d.getD i []).getD c 0
def Used(n:Net)(P:Nat->Nat->Prop):Prop:=∀i c:Nat,i<n.lines.length->(c:Int)<(n.lines.getD i default).classes->a8 n i c≠[]->P i c
def cX(n:Net)(P:Nat->Nat->Prop)(i c:Nat):Prop:=∀a b:Nat,a<n.lines.length->(b:Int)<(n.lines.getD a default).classes->a8 n a b≠[]->(a<i\/a=i/\b<c)->P a b
theorem cX.zero(n:Net)(P:Nat->Nat->Prop):cX n P 0 0:=λa b _ _ _ h=>ω
theorem cX.step{n:Net}{P:Nat->Nat->Prop}{i c:Nat}(h:cX n P i c)(hp:P i c):cX n P i (c+1):=λa b h1 h2 h3 h4=>by
 by_cases e:a=i/\b=c
 ·rw[e.1,e.2];exact hp
 ·exact h a b h1 h2 h3 ω
theorem cX.skip{n:Net}{P:Nat->Nat->Prop}{i c:Nat}(h:cX n P i c)(hm:a8 n i c=[]):cX n P i (c+1):=λa b h1 h2 h3 h4=>by
 by_cases e:a=i/\b=c
 ·rw[e.1,e.2,hm]at h3;exact absurd rfl h3
 ·exact h a b h1 h2 h3 ω
theorem cX.row{n:Net}{P:Nat->Nat->Prop}{i c:Nat}(h:cX n P i c)(hc:¬(c:Int)<(n.lines.getD i default).classes):cX n P (i+1) 0:=λa b h1 h2 h3 h4=>by
 refine h a b h1 h2 h3 ?_;rcases ζ a i with h5|h5
 ·exact .inl h5
 ·obtain rfl:a=i:=ω;exact .inr ⟨rfl,ω⟩
theorem cX.all{n:Net}{P:Nat->Nat->Prop}{i:Nat}(h:cX n P i 0)(hi:¬i<n.lines.length):Used n P:=λa b h1 h2 h3=>h a b h1 h2 h3 ω
structure DimOk(n:Net)(d:Xa):Prop where
 len:d.length=n.lines.length
 row:∀i:Nat,i<n.lines.length->((d.getD i []).length:Int)=(n.lines.getD i default).classes
theorem ShapeOk.dim{n:Net}{d:Xa}(h:ShapeOk n d):DimOk n d:=⟨h.len,h.row⟩
def xJ(n:Net)(d e:Xa):Prop:=Used n (λi c=>0<=at2 d i c)/\Used n (λi c=>0<=at2 e i c/\at2 e i c<=at2 d i c)
def proofR:Option (Xa)->AV
 |some e=>.tup [aK e,.bool true]
 |none=>.tup [.nils,.bool false]
def envOk(E:List (Nat×AV)):List Nat->List AV->Prop
 |[],[]=>True
 |k::ks,c::cs=>luS E k=some c/\envOk E ks cs
 |_,_=>False
theorem pC{E:List (Nat×AV)}:∀{ks:List Nat} {cs:List AV},envOk E ks cs->∀(i k:Nat) (c:AV),ks[i]? =some k->cs[i]? =some c->luS E k=some c
 |[],[],_,i,k,c,h,_=>by simp at h
 |[],_::_,h,_,_,_,_,_=>h.elim
 |_::_,[],h,_,_,_,_,_=>h.elim
 |k0::ks,c0::cs,h,0,k,c,h1,h2=>by cases h1;cases h2;exact h.1
 |k0::ks,c0::cs,h,i+1,k,c,h1,h2=>pC h.2 i k c (by simpa using h1) (by simpa using h2)
theorem vE{B:Xb}{a b:Nat}{x y:LObj}(h1:luB B a=some x)(h2:luB B b=some y):∀p∈[(a,x),(b,y)],luB B p.1=some p.2:=λp hp=>by
 rcases List.mem_cons.1 hp with rfl|hp
 ·exact h1
 ·rw[List.mem_singleton.1 hp];exact h2
theorem fam2(a b:Nat)(hab:a≠b)(x y:LObj)(hx:x.live=true)(hy:y.live=true)(cx:obCl [a,b] x)(cy:obCl [a,b] y):Fam [a,b] (λ_:Unit=>[(a,x),(b,y)]):=by
 refine⟨λ_=>rfl,List.nodup_cons.2 ⟨by simpa using hab,List.nodup_cons.2 ⟨by simp,List.nodup_nil⟩⟩,λ_ p hp=>?_,λ_ p hp=>?_⟩
 ·rcases List.mem_cons.1 hp with rfl|hp
  ·exact hx
  ·rw[List.mem_singleton.1 hp];exact hy
 ·rcases List.mem_cons.1 hp with rfl|hp
  ·exact cx
  ·rw[List.mem_singleton.1 hp];exact cy
theorem FP(n:Net)(d e:Xa)(h:NetOk n)(hd:ShapeOk n d)(he:DimOk n e)(hstep:q0d 185 [n.av,aK d] (.tup [aK e,J 0])) :
  ∃x:Option (Xa),((x=some e/\xJ n d e)\/(x=none/\¬xJ n d e))/\q0d 128 [n.av,aK d] (proofR x):=by
 have p0:=dt n d h hd;obtain⟨_,_,p1⟩:=Df n;have hf:=fam2 804 805 φ (.box [.nils]) (.box [.bool false]) rfl rfl rfl rfl;refine opE func128 ntmps128 results128 ?_ (hcl:=⟨rfl,rfl,by simp⟩) (hco:=λx=>⟨by cases x<;>rfl,by simp,rfl⟩);repeat'(first|(refine az [] [] [(804,4),(805,5)] [(2,.lptr 2 0),(3,.lptr 3 0),(4,.lptr 804 0),(5,.lptr 805 0)] [(2,some (.box n.cells)),(3,some (.box [aK d])),(804,some (.box [.nils])),(805,some (.box [.bool false]))] ⟨⟨rfl,rfl⟩,sq1,sq1⟩ ?_;(conv=>whnf);(refine a7 2 rfl rfl rfl ?_ ?_ ?_;(solve|try refine' frzZ);(solve|try refine' frzZ));(conv=>whnf);(refine a7 3 rfl rfl rfl ?_ ?_ ?_;(solve|try refine' frzZ);(solve|try refine' frzZ));(conv=>whnf))|refine' aj|refine ab p0 ?_|refine ab p1 ?_)
 refine rM 801 n h rfl [2,3,4,5] [.ibox n.cells 0,.ibox [aK d] 0,.lptr 804 0,.lptr 805 0] [18,19] rfl hf () ⟨rfl,rfl,rfl,⟨rfl,rfl,trivial⟩,rfl,pC ⟨rfl,rfl,rfl,rfl,trivial⟩,rfl,φ,φ⟩
  (λi c _=>cX n (λi c=>0<=at2 d i c) i c) (λm _=>(m=none/\Used n (λi c=>0<=at2 d i c))\/(m=some .ret/\¬Used n (λi c=>0<=at2 d i c)))
  (λi c _ hi hc hm hI=>?_) (λi c _ _ _ hm hI=>hI.skip hm) (λi c _ _ hc hI=>hI.row hc) (λi _ hi hI=>.inl ⟨rfl,hI.all hi⟩) (cX.zero _ _) ?_
 ·have hl1:=hd.len;have hl2:=hd.row i hi;have ei:(i:Int).toNat=i:=rfl;by_cases hp:at2 d i c<0
  ·skip;repeat'(first|(refine Λ hp λhb=>?_;conv=>whnf)|(refine Exists.intro _ (And.intro rfl ?_))|refine' aj|fail)
   all_goals try first|omega|(rw[ei];omega)
   exact pA hf rfl rfl () .ret (.inr ⟨rfl,λhu=>absurd (hu i c hi hc hm) ω⟩) rfl (vE rfl rfl)
  ·skip;repeat'(first|(refine Υ hp λhb=>?_;conv=>whnf)|(refine Exists.intro _ (And.intro rfl ?_))|refine' aj|fail)
   all_goals try first|omega|(rw[ei];omega)
   exact rL hf rfl rfl () (hI.step ω) rfl (vE rfl rfl)
 rintro m _ (⟨rfl,hu⟩|⟨rfl,hu⟩)
 ·conv=>whnf
  repeat'(first|(refine az [2,3,4,5] [804,805] [] [(8,.lptr 8 0),(9,J 0)] [(8,some (.box [aK e]))] ⟨⟨rfl,rfl⟩,sq1,sq1⟩ ?_;(conv=>whnf);(refine a7 8 rfl rfl rfl ?_ ?_ ?_;(solve|try refine' frzZ);(solve|try refine' frzZ));(conv=>whnf))|refine' aj|refine ab hstep ?_|refine ab p1 ?_)
  refine rM 802 n h rfl [2,3,4,5,8] [.ibox n.cells 0,.ibox [aK d] 0,.lptr 804 0,.lptr 805 0,.ibox [aK e] 0] [38,39] rfl hf () ⟨rfl,rfl,rfl,⟨rfl,rfl,trivial⟩,rfl,pC ⟨rfl,rfl,rfl,rfl,rfl,trivial⟩,rfl,φ,φ⟩
   (λi c _=>cX n (λi c=>0<=at2 e i c/\at2 e i c<=at2 d i c) i c) (λm _=>(m=none/\Used n (λi c=>0<=at2 e i c/\at2 e i c<=at2 d i c))\/(m=some .ret/\¬Used n (λi c=>0<=at2 e i c/\at2 e i c<=at2 d i c)))
   (λi c _ hi hc hm hI=>?_) (λi c _ _ _ hm hI=>hI.skip hm) (λi c _ _ hc hI=>hI.row hc) (λi _ hi hI=>.inl ⟨rfl,hI.all hi⟩) (cX.zero _ _) ?_
  ·have hl1:=hd.len;have hl2:=hd.row i hi;have hl3:=he.len;have hl4:=he.row i hi;have ei:(i:Int).toNat=i:=rfl;by_cases hp:at2 e i c<0
   ·skip;repeat'(first|(refine Λ hp λhb=>?_;conv=>whnf)|(refine Exists.intro _ (And.intro rfl ?_))|refine' aj|fail)
    all_goals try first|omega|(rw[ei];omega)
    exact pA hf rfl rfl () .ret (.inr ⟨rfl,λhu=>absurd (hu i c hi hc hm).1 ω⟩) rfl (vE rfl rfl)
   ·by_cases hq:at2 e i c>at2 d i c
    ·skip;repeat'(first|(refine Λ hq λhb=>?_;conv=>whnf)|(refine Υ hp λhb=>?_;conv=>whnf)|(refine Exists.intro _ (And.intro rfl ?_))|refine' aj|fail)
     all_goals try first|omega|(rw[ei];omega)
     exact pA hf rfl rfl () .ret (.inr ⟨rfl,λhu=>absurd (hu i c hi hc hm).2 ω⟩) rfl (vE rfl rfl)
    ·skip;repeat'(first|(refine Υ hq λhb=>?_;conv=>whnf)|(refine Υ hp λhb=>?_;conv=>whnf)|(refine Exists.intro _ (And.intro rfl ?_))|refine' aj|fail)
     all_goals try first|omega|(rw[ei];omega)
     exact rL hf rfl rfl () (hI.step ⟨ω,ω⟩) rfl (vE rfl rfl)
  rintro m _ (⟨rfl,hu2⟩|⟨rfl,hu2⟩)
  ·conv=>whnf
   repeat'(first|refine' aj|fail)
   exact ag ⟨some e,rfl,.inl ⟨rfl,hu,hu2⟩⟩
  ·conv=>whnf
   exact ag ⟨none,rfl,.inr ⟨rfl,λhc=>hu2 hc.2⟩⟩
 ·conv=>whnf
  exact ag ⟨none,rfl,.inr ⟨rfl,λhc=>hu hc.1⟩⟩
theorem vF(n:Net)(d e:Xa)(h:NetOk n)(hd:ShapeOk n d)(he:DimOk n e)(hstep:q0d 185 [n.av,aK d] (.tup [aK e,J 0])) :
  ∃b:Bool,(b=true↔xJ n d e)/\q0d 69 [n.av,aK d] (.bool b):=by
 have p0:=FP n d e h hd he hstep;refine opE func69 ntmps69 results69 ?_;rcases p0 with⟨x,(⟨rfl,hc⟩|⟨rfl,hc⟩),p0⟩
 ·skip;repeat'(first|refine' bu|refine ab p0 ?_)
  exact⟨true,rfl,λ_=>hc,λ_=>rfl⟩
 ·skip;repeat'(first|refine' bu|refine ab p0 ?_)
  exact⟨false,rfl,λh=>(by cases h),λh=>absurd h hc⟩
def resV:Option (Xa)->AV
 |some d=>aK d
 |none=>.nils
def Dh:Option (Xa×Nat)->Option (Xa)×Int×Int
 |some (d,k)=>(some d,k,0)
 |none=>(none,0,5)
def GZ(x:Option (Xa×Nat)):AV:=.tup [resV (Dh x).1,J (Dh x).2.1,J (Dh x).2.2]
def np(n:Net)(D:Nat->Xa)(k:Nat):Prop:=∀j,1<=j->j<=k->Used n (λi c=>0<=at2 (D j) i c)/\D (j-1)≠D j
def iF(n:Net)(D:Nat->Xa)(rounds:Nat):Option (Xa×Nat)->Prop
 |some (d,k)=>1<=k/\k<=rounds/\d=D k/\np n D (k-1)/\Used n (λi c=>0<=at2 (D k) i c)/\D (k-1)=D k
 |none=>(∃k,1<=k/\k<=rounds/\np n D (k-1)/\¬Used n (λi c=>0<=at2 (D k) i c))\/np n D rounds
theorem np.next{n:Net}{D:Nat->Xa}{k:Nat}(h:np n D k)(hu:Used n (λi c=>0<=at2 (D (k+1)) i c))(hd:D k≠D (k+1)):np n D (k+1):=λj h1 h2=>by
 rcases ζ k j with h3|h3
 ·obtain rfl:j=k+1:=ω;exact⟨hu,hd⟩
 ·exact h j h1 h3
end Go.Nc