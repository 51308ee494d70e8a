/- Parts. -/
import Derived.Test.YtooapceogfengaaGreatNcBNA
namespace Go.Nc
open Go.Proofs.Tryz
set_option maxHeartbeats 8000000
structure Bnd where
 found:Bool
 value:Int
 meth:Int
 choice:List Int
abbrev Cand:=Bnd×List Spl
def v8:Bnd:=⟨false,0,0,[]⟩
def dA(c:Cand)(x:Bnd)(ps:List Spl):Cand:=if c.1.found=false\/x.value<c.1.value then(x,ps)else c
def tryX(D:Curve->Except Int Dev)(c:Cand)(p:List Int×Curve×List Spl):Cand:=match ju (D p.2.1)with
 |.ok v=>dA c ⟨true,v,2,p.1⟩ p.2.2
 |.error _=>c
noncomputable def hopO(n:Net)(d:Xa)(i k:Nat)(last:Bool)(o:Int):Except Int Curve:=match bB n d i k o with
 |.error e=>.error e
 |.ok z=>if last then .ok z else hopX z ((n.flows.getD i default).most-1)
noncomputable def lB(n:Net)(d:Xa)(i k:Nat)(last:Bool)(z:Curve)(ps:List Spl)(o:Int):Option (Curve×List Spl):=match hopO n d i k last o with
 |.error _=>none
 |.ok y=>if k=0 then some (y,ps)else match dm z y with
  |.error _=>none
  |.ok p=>some (p.res,ps++[p])
noncomputable def allP(n:Net)(d:Xa)(i:Nat):Nat->List Int->Curve->List Spl->List (List Int×Curve×List Spl)
 |0,ch,z,ps=>[(ch,z,ps)]
 |r+1,ch,z,ps=>match gI n d i ch.length with
  |.error _=>[]
  |.ok l=>l.flatMap λo=>match lB n d i ch.length (r==0) z ps o with
   |none=>[]
   |some y=>allP n d i r (ch++[o]) y.1 y.2
noncomputable def iJ(n:Net)(d:Xa)(i:Nat)(D:Curve->Except Int Dev)(r:Nat)(ch:List Int)(z:Curve)(ps:List Spl)(c:Cand):Cand:=(allP n d i r ch z ps).foldl (tryX D) c
theorem jv(c:Cand)(x:Bnd)(ps:List Spl)(h:x.found=true):(dA c x ps).1.found=true:=by
 unfold dA;split
 ·exact h
 ·rename_i g;cases hf:c.1.found with
  |true=>rfl
  |false=>exact absurd (.inl hf) g
theorem v9(c:Cand)(x:Bnd)(ps:List Spl):(dA c x ps).1.value<=x.value/\(c.1.found=true->(dA c x ps).1.value<=c.1.value):=by
 unfold dA;split
 ·rename_i g;refine⟨Int.le_refl _,λh=>?_⟩;rcases g with g|g
  ·rw[h]at g;cases g
  ·exact Int.le_of_lt g
 ·rename_i g;exact⟨by have:=λh=>g (.inr h);omega,λ_=>Int.le_refl _⟩
theorem vA(c:Cand)(x:Bnd)(ps:List Spl):dA c x ps=(x,ps)\/dA c x ps=c:=by
 unfold dA;split
 ·exact .inl rfl
 ·exact .inr rfl
theorem DP(D:Curve->Except Int Dev)(c:Cand)(p:List Int×Curve×List Spl)(h:c.1.found=true):(tryX D c p).1.found=true/\(tryX D c p).1.value<=c.1.value:=by
 unfold tryX;split
 ·exact⟨jv _ _ _ rfl,(v9 _ _ _).2 h⟩
 ·exact⟨h,Int.le_refl _⟩
theorem DQ(D:Curve->Except Int Dev):∀(l:List (List Int×Curve×List Spl)) (c:Cand),
  (c.1.found=true->(l.foldl (tryX D) c).1.found=true/\(l.foldl (tryX D) c).1.value<=c.1.value)/\
  (∀p∈l,∀v,ju (D p.2.1)=.ok v->(l.foldl (tryX D) c).1.found=true/\(l.foldl (tryX D) c).1.value<=v)/\
  (l.foldl (tryX D) c=c\/∃p∈l,∃v,ju (D p.2.1)=.ok v/\l.foldl (tryX D) c=(⟨true,v,2,p.1⟩,p.2.2))
 |[],c=>⟨λh=>⟨h,Int.le_refl _⟩,λp hp=>by simp at hp,.inl rfl⟩
 |q::l,c=>by
  obtain⟨h1,h2,h3⟩:=DQ D l (tryX D c q);rw[List.foldl_cons];refine⟨λh=>?_,λp hp v hv=>?_,?_⟩
  ·obtain⟨k1,k2⟩:=DP D c q h;obtain⟨k3,k4⟩:=h1 k1;exact⟨k3,ω⟩
  ·rcases List.mem_cons.1 hp with e|hp
   ·subst e;have e2:tryX D c p=dA c ⟨true,v,2,p.1⟩ p.2.2:=by unfold tryX;rw[hv]
    have k1:(tryX D c p).1.found=true:=by rw[e2];exact jv _ _ _ rfl
    have k2:(tryX D c p).1.value<=v:=by rw[e2];exact(v9 _ _ _).1
    obtain⟨k3,k4⟩:=h1 k1;exact⟨k3,ω⟩
   ·exact h2 p hp v hv
  ·rcases h3 with h3|⟨p,hp,v,hv,e⟩
   ·rw[h3];unfold tryX;rcases hv:ju (D q.2.1)with e|v
    ·exact .inl rfl
    ·dsimp only;rcases vA c ⟨true,v,2,q.1⟩ q.2.2 with e|e
     ·exact .inr ⟨q,by simp,v,hv,e⟩
     ·exact .inl e
   ·exact .inr ⟨p,List.mem_cons_of_mem _ hp,v,hv,e⟩
theorem lC{n:Net}{d:Xa}{i r:Nat}{ch:List Int}{z:Curve}{ps:List Spl}{l:List Int}(h:gI n d i ch.length=.ok l) :
  allP n d i (r+1) ch z ps=l.flatMap λo=>match lB n d i ch.length (r==0) z ps o with
   |none=>[]
   |some y=>allP n d i r (ch++[o]) y.1 y.2:=by
 show(match gI n d i ch.length with |.error _=>[]|.ok l=>_)=_;rw[h]
open Go.Proofs
def bndC(x:Bnd):List AV:=[.bool x.found,J x.value,J x.meth,ints x.choice]
def bL(c:Cand):List AV:=[.bool c.1.found,J c.1.value,J c.1.meth,ints c.1.choice,slc 5 Spl.cells default c.2]
theorem vB(c:Cand)(x:Bnd)(ps:List Spl):q0c 70 [.lptr 909 0,.agg (bndC x),slc 5 Spl.cells default ps] [(909,.box (bL c))] (.tup []) [(909,.box (bL (dA c x ps)))]:=by
 obtain⟨⟨f,v,m,ch⟩,qs⟩:=c;rcases f with _|_
 ·rw[show dA (⟨false,v,m,ch⟩,qs) x ps=(x,ps)from if_pos (.inl rfl)];refine opG func70 ntmps70 results70 (λ_ _ _=>?_) (hcl:=⟨rfl,rfl,rfl,bD rfl,bD rfl,rfl⟩);repeat'(first|refine' fX|fail)
  all_goals first|exact Ψ|rfl|(exfalso;omega)
 ·by_cases h:x.value<v
  ·rw[show dA (⟨true,v,m,ch⟩,qs) x ps=(x,ps)from if_pos (.inr h)];refine opG func70 ntmps70 results70 (λ_ _ _=>?_) (hcl:=⟨rfl,rfl,rfl,bD rfl,bD rfl,rfl⟩);repeat'(first|(refine Λ h λhb=>?_;conv=>whnf)|refine' fX|fail)
   all_goals first|exact Ψ|rfl|(exfalso;omega)
  ·rw[show dA (⟨true,v,m,ch⟩,qs) x ps=(⟨true,v,m,ch⟩,qs)from if_neg (by rintro(h2|h2);cases h2;exact h h2)];refine opG func70 ntmps70 results70 (λ_ _ _=>?_) (hcl:=⟨rfl,rfl,rfl,bD rfl,bD rfl,rfl⟩);repeat'(first|(refine Υ h λhb=>?_;conv=>whnf)|refine' fX|fail)
   all_goals first|exact Ψ|rfl|(exfalso;omega)
open Go.Proofs Go.RowKit
set_option maxRecDepth 100000 in
theorem rv(w:World)(p:Option Addr)(c:Nat):Calls prog 104 #[.slice p 0 c] w λe w'=>(∃q,e=.returned (.slice q 0 0))/\Below w.heap.size w w':=by
 have hte:=aB 138 _ rfl;have hsl:prog.underlying 47=some (.slice 138):=(aB 47 _ rfl).slice rfl;have q22:∀(w:World) (a:Option Addr) (n c n' c':Nat),(binOp .eql 47 (.slice a n c) (.slice none n' c')).run prog w=.ok (.bool a.isNone) w:=λw a n c n' c'=>Lib.run_eql_slice_nil w _ _ a n c n' c' hsl;have u22:∀w,Sem.run prog (underlying 47) w=.ok (TypeDesc.slice 138) w:=run_underlying hsl;cases p with
 |none=>
  go_enter func104,ntmps104
  go_wp2
  go_ret
  exact⟨⟨none,rfl⟩,Below.refl _ _⟩
 |some a=>
  go_enter func104,ntmps104
  go_wp2_with (at_builtin;refine iG rfl _ _ 47 rfl hsl hte _ _ _ rfl rfl ?_)
  go_ret
  exact⟨⟨_,rfl⟩,(Below.refl _ w).alloc (ξ _) _⟩
theorem AI(l:List Spl)(hl:1<=l.length/\l.length<=1099511627776):q0d 104 [slc 5 Spl.cells default l] (slc 5 Spl.cells default l):=by
 refine opG func104 ntmps104 results104 λ_ _ _=>?_;repeat'(first|refine' gO|(refine bE [] [] [] [(2,.osl 7 l.length)] [(7,some (.arr l.length 5 (λi=>Spl.cells (l.getD i default)) 138))] ⟨⟨rfl,rfl⟩,?_,?_⟩ (co 7 rfl rfl (λ_ _=>rfl) ?_ ?_ (dM ?_))))
 all_goals try omega
 ·skip;all_goals((refine' subP)<;>first|exact q0b ω λi hi=>rfl|exact sq1)
 ·skip;all_goals((refine' subP)<;>first|exact Θ (congrArg (AV.osl 7) ω)|exact sq1)
 ·all_goals try refine' frzZ
 ·exact⟨λi hi=>by(repeat'(first|exact True.intro|refine And.intro ?_ ?_)),trivial⟩
 ·exact Ψ
 ·exact⟨ω,Gt ω (λ_ _=>rfl)⟩
theorem DR(l:List Spl)(h:l.length<=1099511627776):q0d 104 [slc 5 Spl.cells default l] (slc 5 Spl.cells default l):=by
 rcases l with _|⟨x,r⟩
 ·exact CallSpec.empty (tg func104 rfl (by kernel_rfl)) rv 5 5 _ _
 ·exact AI (x::r) ⟨by simp,h⟩
theorem mC{P:Program}{f:FuncId}(us vs:List AV){o:Xd}{k:List Nat->AV->Xb->Prop}{r:AV}{id n m sz T:Nat}{get get':Nat->List AV}{ins outs:Xc}(h:CallSpec P f (us++.isl n sz get::vs) ins r outs)
  (hi1:luL ins id=none) (hi2:luL outs id=none) (ho:o id=some (.arr m sz get' T)) (hin:dB o ins) (hout:fk o ((id,.arr m sz get' T)::ins) ((id,.dead)::outs)) (hnm:n<=m) (hg:∀i,i<n->get' i=get i) (him:∀i,i<m->nmL [] (get' i)=true)
  (hk:k (((id,LObj.arr m sz get' T)::ins).map (·.1)++((id,LObj.dead)::outs).map (·.1)) r (aS ((id,.dead)::outs))):vCall P f (us++.osl id n::vs) o k :=
 ⟨r,_,_,h.thaw id hnm hg him hi1 hi2,⟨ho,hin⟩,hout,hk⟩
theorem DS{P:Program}{f:FuncId}(he:∀(xs:Array Value) (w:World),(callFunc f xs).run P w=.ok (.enter f xs) w)
  (h:∀(w:World) (p:Option Addr) (c:Nat),Calls P f #[.slice p 0 c] w λe w'=>(∃q,e=.returned (.slice q 0 0))/\Below w.heap.size w w') (sz:Nat) (get:Nat->List AV):CallSpec P f [.isl 0 sz get] [] .emp []:=by
 refine⟨he,λid ob h=>(by cases h),λid ob h=>(by cases h),λw ρ Im xs hm hx=>?_⟩;obtain⟨p,c,rfl⟩:∃p c,xs= #[.slice p 0 c]:=by
  obtain⟨h1,h2⟩:=hx;obtain⟨x,rfl⟩:∃x,xs= #[x]:=by
   obtain⟨l⟩:=xs;match l,h1 with
   |[x],_=>exact⟨x,rfl⟩
  have h3:=h2 0 _ x rfl rfl;rcases h3.isl_inv with⟨_,p,rfl⟩|⟨b,off,cap,arr,T,fr,rfl,_⟩
  ·exact⟨p,0,rfl⟩
  ·exact⟨_,cap,rfl⟩
 refine(h w p c).mono λe w' hb=>?_;obtain⟨⟨q,rfl⟩,hb⟩:=hb;refine⟨_,ρ,Im,rfl,.imm _ _ (.emp q),λi hi=>(by cases hi),?_⟩;refine ⟨fun id ob h=>(by cases h),fun id ob b h=>(by cases h),fun id id' ob ob' b h=>(by cases h),fun id ob h=>(by cases h),fun b hI=>Nat.lt_of_lt_of_le (hm.imlt b hI) hb.size,fun _ h=>h,fun _ h=>.inl h,
  hb.os,hb.tape,hb.output,hb.size,λb hlt _=>hb.block b hlt,λid h=>(by cases h),λl r h=>⟨r.state,r.pending,?_⟩,λl h=>(by cases h)⟩
 have hl:l<w.heap.size:=(Array.getElem?_eq_some_iff.1 h).1;rw[hb.block l hl];exact h
theorem AJ:q0d 103 [ints []] .emp:=DS (tg func103 rfl (by kernel_rfl)) AF 1 _
theorem rx:q0d 104 [slc 5 Spl.cells default []] .emp:=DS (tg func104 rfl (by kernel_rfl)) rv 5 _
def fe(n:Net)(d:Xa)(i:Nat):List AV:=n.cells++[a9 d,J i,.lptr 909 0]
def vC(n:Net)(d:Xa)(i:Nat)(D:Curve->Except Int Dev)(r:Nat)(ch:List Int)(z:Curve)(ps:List Spl):Prop :=
 ∀c:Cand,q0c 71 [.lptr 912 0,ints ch,z.av,slc 5 Spl.cells default ps] [(912,.box (fe n d i)),(909,.box (bL c))] (.tup []) [(912,.box (fe n d i)),(909,.box (bL (iJ n d i D r ch z ps c)))]
theorem cl2{l:Xc}{a b:Nat×LObj}(h:l=[a,b])(ha:obCl (l.map (·.1)) a.2)(hb:obCl (l.map (·.1)) b.2):∀p∈l,obCl (l.map (·.1)) p.2:=by
 subst h;intro p hp;simp only[List.mem_cons,List.not_mem_nil,or_false]at hp;rcases hp with rfl|rfl
 ·exact ha
 ·exact hb
theorem vD(n:Net)(d:Xa)(h:NetOk n)(i:Nat)(hi:i<n.flows.length)(D:Curve->Except Int Dev)(hD:DelF (n.flows.getD i default).con D)(ch:List Int)(hch:ch.length=(n.flows.getD i default).route.length)(z:Curve)(hz:a7 z)(ps:List Spl)(hps:ps.length<=10):vC n d i D 0 ch z ps:=by
 intro c;have hfl:=h.flen;have hfo:FlowOk n.lines (n.flows.getD i default):=h.flow _ (by simp[hi]);have hne:=hfo.ne;have hlen:(ch.length:Int)=(n.flows.getD (i:Int).toNat default).route.length:=by rw[χ];omega
 have p1:=hD.spec z hz;have he:=hD.err z;have p2:=gV ch ω;have p3:=DR ps ω;show CallSpec _ _ _ _ _ [_,(909,.box (bL (tryX D c (ch,z,ps))))];unfold tryX;dsimp only;have hcl:∀c:Cand,∀p∈[(912,LObj.box (fe n d i)),(909,.box (bL c))],obCl ([(912,LObj.box (fe n d i)),(909,.box (bL c))].map (·.1)) p.2:=λc=>cl2 rfl rfl rfl;rcases hx:D z with e|⟨b,v,w⟩
 ·have he:=he e hz hx;rw[hx]at p1;show CallSpec _ _ _ _ _ [_,(909,.box (bL c))];refine opG func71 ntmps71 results71 (λ_ _ _=>?_) (hcl:=⟨rfl,rfl,rfl,hcl c,hcl c,rfl⟩);repeat'(first|(refine Λ hlen λhb=>?_;conv=>whnf)|refine' aj|(refine ba ⟨?_,rfl,rfl,trivial⟩;conv=>whnf)|refine ab p1 ?_)
  all_goals first|exact absurd ‹_› he|exact Ψ|exact⟨rfl,rfl,trivial⟩|rfl|omega|(exfalso;omega)
 ·rw[hx]at p1;by_cases hv:b=true\/2000<v
  ·rw[show ju (.ok (b,v,w))=.error 5 from if_pos hv];dsimp only;rcases b with _|_
   ·have hv:¬v<=2000:=by
     rcases hv with hv|hv
     ·cases hv
     ·omega
    refine opG func71 ntmps71 results71 (λ_ _ _=>?_) (hcl:=⟨rfl,rfl,rfl,hcl c,hcl c,rfl⟩);repeat'(first|(refine Υ hv λhb=>?_;conv=>whnf)|(refine Λ hlen λhb=>?_;conv=>whnf)|refine' aj|(refine ba ⟨?_,rfl,rfl,trivial⟩;conv=>whnf)|refine ab p1 ?_)
    all_goals first|exact Ψ|exact⟨rfl,rfl,trivial⟩|rfl|omega|(exfalso;omega)
   ·refine opG func71 ntmps71 results71 (λ_ _ _=>?_) (hcl:=⟨rfl,rfl,rfl,hcl c,hcl c,rfl⟩);repeat'(first|(refine Λ hlen λhb=>?_;conv=>whnf)|refine' aj|(refine ba ⟨?_,rfl,rfl,trivial⟩;conv=>whnf)|refine ab p1 ?_)
    all_goals first|exact Ψ|exact⟨rfl,rfl,trivial⟩|rfl|omega|(exfalso;omega)
  ·rw[show ju (.ok (b,v,w))=.ok v from if_neg hv];dsimp only;rcases b with _|_
   ·have hv:v<=2000:=by
     have:=λh=>hv (.inr h);omega
    have p4:=vB c ⟨true,v,2,ch⟩ ps;refine opG func71 ntmps71 results71 (λ_ _ _=>?_) (hcl:=⟨rfl,rfl,rfl,hcl c,hcl _,rfl⟩);repeat'(first|(refine Λ hv λhb=>?_;conv=>whnf)|(refine Λ hlen λhb=>?_;conv=>whnf)|refine' aj|(refine ba ⟨?_,rfl,rfl,trivial⟩;conv=>whnf)|refine ab p1 ?_|refine ab p2 ?_|refine ab p3 ?_|refine bT p4 ?_)
    all_goals first|exact Ψ|exact⟨rfl,rfl,trivial⟩|rfl|omega|(exfalso;omega)
   ·exact absurd (.inl rfl) hv
theorem emp_le{sz:Nat}{g:Nat -> List AV}:AvLe .emp (.isl 0 sz g):=⟨fun _ _ _ _ h=>by
 cases h with
 |imm _ _ h=>cases h with
  |emp p=>exact .imm _ _ (.isl0 _ _ _)⟩
theorem FN(o:Int):∀i,i<1->[J o]=[J (([o]:List Int).getD i 0)]:=λi hi=>by
 obtain rfl:i=0:=ω;rfl
theorem tp{n:Net}{d:Xa}{i:Nat}{last:Bool}{z:Curve}{ps:List Spl}{o:Int}:lB n d i 0 last z ps o=match hopO n d i 0 last o with
 |.error _=>none
 |.ok y=>some (y,ps):=rfl
theorem xq{n:Net}{d:Xa}{i k:Nat}{last:Bool}{z:Curve}{ps:List Spl}{o:Int}:lB n d i (k+1) last z ps o=match hopO n d i (k+1) last o with
 |.error _=>none
 |.ok y=>match dm z y with
  |.error _=>none
  |.ok p=>some (p.res,ps++[p]):=rfl
theorem Gy{n:Net}{d:Xa}{i k:Nat}{last:Bool}{o e:Int}(h:bB n d i k o=.error e):hopO n d i k last o=.error e:=by
 unfold hopO;rw[h]
theorem DT{n:Net}{d:Xa}{i k:Nat}{o:Int}{y:Curve}(h:bB n d i k o=.ok y):hopO n d i k true o=.ok y:=by
 unfold hopO;rw[h];rfl
theorem Gz{n:Net}{d:Xa}{i k:Nat}{o:Int}{y:Curve}(h:bB n d i k o=.ok y):hopO n d i k false o=hopX y ((n.flows.getD i default).most-1):=by
 unfold hopO;rw[h];rfl
noncomputable def goP(n:Net)(d:Xa)(i r:Nat)(ch:List Int)(z:Curve)(ps:List Spl)(o:Int):List (List Int×Curve×List Spl):=match lB n d i ch.length (r==0) z ps o with
 |none=>[]
 |some y=>allP n d i r (ch++[o]) y.1 y.2
theorem n7{n:Net}{d:Xa}{i r:Nat}{ch:List Int}{z:Curve}{ps:List Spl}{o:Int}(h:lB n d i ch.length (r==0) z ps o=none):goP n d i r ch z ps o=[]:=by
 unfold goP;rw[h]
theorem tq{n:Net}{d:Xa}{i r:Nat}{ch:List Int}{z y:Curve}{ps qs:List Spl}{o:Int}(h:lB n d i ch.length (r==0) z ps o=some (y,qs)):goP n d i r ch z ps o=allP n d i r (ch++[o]) y qs:=by
 unfold goP;rw[h]
noncomputable def ky(n:Net)(d:Xa)(i:Nat)(D:Curve->Except Int Dev)(r:Nat)(ch:List Int)(z:Curve)(ps:List Spl)(l:List Int)(j:Nat)(c:Cand):Cand:=((l.drop j).flatMap (goP n d i r ch z ps)).foldl (tryX D) c
theorem ry{n:Net}{d:Xa}{i:Nat}{D:Curve->Except Int Dev}{r:Nat}{ch:List Int}{z:Curve}{ps:List Spl}{l:List Int}{j:Nat}(hj:j<l.length)(c:Cand) :
  ky n d i D r ch z ps l j c=ky n d i D r ch z ps l (j+1) ((goP n d i r ch z ps (l.getD j 0)).foldl (tryX D) c):=by
 unfold ky;rw[cz hj,List.flatMap_cons,List.foldl_append]
theorem vE{n:Net}{d:Xa}{i:Nat}{D:Curve->Except Int Dev}{r:Nat}{ch:List Int}{z:Curve}{ps:List Spl}{l:List Int}(c:Cand):ky n d i D r ch z ps l l.length c=c:=by
 unfold ky;rw[List.drop_length];rfl
theorem vF{n:Net}{d:Xa}{i:Nat}{D:Curve->Except Int Dev}{r:Nat}{ch:List Int}{z:Curve}{ps:List Spl}{l:List Int}(h:gI n d i ch.length=.ok l)(c:Cand):iJ n d i D (r+1) ch z ps c=ky n d i D r ch z ps l 0 c:=by
 unfold iJ ky;rw[lC h,List.drop_zero];rfl
theorem vG{n:Net}{d:Xa}{i:Nat}{D:Curve->Except Int Dev}{r:Nat}{ch:List Int}{z:Curve}{ps:List Spl}{e:Int}(h:gI n d i ch.length=.error e)(c:Cand):iJ n d i D (r+1) ch z ps c=c:=by
 unfold iJ allP;rw[h];rfl
theorem jw(n:Net)(d:Xa)(i:Nat)(c:Cand):∀p∈[(912,LObj.box (fe n d i)),(909,.box (bL c))],obCl ([(912,LObj.box (fe n d i)),(909,.box (bL c))].map (·.1)) p.2:=cl2 rfl rfl rfl
theorem vH{n:Net}{d:Xa}{i:Nat}{D:Curve->Except Int Dev}{r:Nat}{o:Int}{y:Curve}(h:vC n d i D r [o] y [])(c:Cand) :
  q0c 71 ([.lptr 912 0]++.isl 1 1 (λ_=>[J o])::[y.av,.emp]) [(912,.box (fe n d i)),(909,.box (bL c))] (.tup []) [(912,.box (fe n d i)),(909,.box (bL (iJ n d i D r [o] y [] c)))] :=
 (h c).arg (.cons Ψ (.cons (Γ rfl (FN o)) (.cons Ψ (.cons emp_le .nil))))
theorem xr{n:Net}{d:Xa}(h:NetOk n)(hd:ShapeOk n d){i k:Nat}(hi:i<n.flows.length)(hk:k<(n.flows.getD i default).route.length){l:List Int}(e:gI n d i k=.ok l):(1<=l.length/\l.length<=3)/\∀x∈l,0<=x/\x<=401:=by
 have hfo:FlowOk n.lines (n.flows.getD i default):=h.flow _ (by simp[hi]);have h1:=hfo.lines _ (a8 (l:=(n.flows.getD i default).route) (i:=k) hk);have h2:=hfo.cls2 _ (a8 (l:=(n.flows.getD i default).route) (i:=k) hk);have h0:=hfo.cls;have h3:=hd.row ((n.flows.getD i default).route.getD k 0).toNat ω;have h4:=hd.val ((n.flows.getD i default).route.getD k 0).toNat (n.flows.getD i default).class_.toNat ω ω;unfold gI at e;split at e
 ·cases e
 ·rename_i g;obtain⟨v,ev⟩:∃v,v=(d.getD ((n.flows.getD i default).route.getD k 0).toNat []).getD (n.flows.getD i default).class_.toNat 0:=⟨_,rfl⟩;rw[<-ev]at e h4 g;cases e;unfold optL;split
  ·refine⟨by simp,λx hx=>?_⟩;simp only[List.mem_cons,List.not_mem_nil,or_false]at hx;omega
  ·refine⟨by simp,λx hx=>?_⟩;simp only[List.mem_cons,List.not_mem_nil,or_false]at hx;omega
theorem FO(a b:Int):∀i,i<2->(bif Nat.beq i 0 then[J a]else[J b])=[J (([a,b]:List Int).getD i 0)]:=λi hi=>by
 rcases(ω:i=0\/i=1)with rfl|rfl<;>rfl
theorem HS(p:Spl):∀i,i<1->Spl.cells p=Spl.cells (([p]:List Spl).getD i default):=λi hi=>by
 obtain rfl:i=0:=ω;rfl
theorem DU{n:Net}{d:Xa}{i:Nat}{D:Curve->Except Int Dev}{a o:Int}{y:Curve}{p:Spl}(h:vC n d i D 0 [a,o] y [p])(c:Cand) :
  q0c 71 ([.lptr 912 0]++.isl 2 1 (λi=>bif Nat.beq i 0 then[J a]else[J o])::[y.av,.isl 1 5 λ_=>Spl.cells p]) [(912,.box (fe n d i)),(909,.box (bL c))] (.tup []) [(912,.box (fe n d i)),(909,.box (bL (iJ n d i D 0 [a,o] y [p] c)))] :=
 (h c).arg (.cons Ψ (.cons (Γ rfl (FO a o)) (.cons Ψ (.cons (Γ rfl (HS p)) .nil))))
theorem G0(n:Net)(d:Xa)(h:NetOk n)(hw:NamesOk n)(hd:ShapeOk n d)(i:Nat)(hi:i<n.flows.length)(D:Curve->Except Int Dev)(r:Nat)(hr:(n.flows.getD i default).route.length=r+1)(z:Curve)
  (hrec:∀o y,a7 y->ah o->vC n d i D r [o] y []):vC n d i D (r+1) [] z []:=by
 intro c;have hfl:=h.flen;have hfo:FlowOk n.lines (n.flows.getD i default):=h.flow _ (by simp[hi]);have hsz:=hfo.sizes;have hne:=hfo.ne;have p1:=Dc n d h hd i 0 hi ω;obtain⟨f,ef⟩:∃f,f=n.flows.getD i default:=⟨_,rfl⟩;have hlen:¬((([]:List Int).length:Nat):Int)=(n.flows.getD (i:Int).toNat default).route.length:=by rw[χ,hr];simp;omega
 rcases ho:gI n d i 0 with e|l
 ·have he:e≠0:=by
   unfold gI at ho;split at ho<;>cases ho;decide
  rw[vG (ch:=[]) (r:=r) ho];rw[ho]at p1;suffices hh:∃x,x=c/\q0c 71 [.lptr 912 0,ints [],z.av,slc 5 Spl.cells default []] [(912,.box (fe n d i)),(909,.box (bL c))] (.tup []) [(912,.box (fe n d i)),(909,.box (bL x))] by obtain⟨_,rfl,p⟩:=hh;exact p
  refine opE func71 ntmps71 results71 ?_ (hcl:=⟨rfl,rfl,jw n d i c⟩) (hco:=λc'=>⟨rfl,jw n d i c',rfl⟩);repeat'(first|(refine Υ hlen λhb=>?_;conv=>whnf)|refine' ag|refine ab p1 ?_)
  all_goals try first|exact ariA|(exfalso;omega)|exact absurd ‹_› he
  exact aF ⟨c,rfl,⟨rfl,rfl,trivial⟩,rfl⟩
 ·obtain⟨X,eX⟩:∃X,X=iJ n d i D (r+1) [] z [] c:=⟨_,rfl⟩;have hX:ky n d i D r [] z [] l 0 c=X:=by rw[eX];exact(vF (ch:=[]) (r:=r) ho c).symm
  rw[<-eX];rw[ho]at p1;have hl3:=xr h hd hi ω ho;suffices hh:∃x,x=X/\q0c 71 [.lptr 912 0,ints [],z.av,slc 5 Spl.cells default []] [(912,.box (fe n d i)),(909,.box (bL c))] (.tup []) [(912,.box (fe n d i)),(909,.box (bL x))] by obtain⟨_,rfl,p⟩:=hh;exact p
  refine opE func71 ntmps71 results71 ?_ (hcl:=⟨rfl,rfl,jw n d i c⟩) (hco:=λc'=>⟨rfl,jw n d i c',rfl⟩);repeat'(first|(refine Υ hlen λhb=>?_;conv=>whnf)|refine' ag|refine ab p1 ?_)
  all_goals try exact ariB
  refine ae (ι:={q:Nat×Cand//q.1<=l.length/\ky n d i D r [] z [] l q.1 q.2=X}) [0,1,3,6,8,9,12,89] [6,8,912] [] ⟨(0,c),π _,hX⟩ (λ⟨(j,_),_⟩=>l.length-j) (λ⟨(j,_),_⟩=>[(90,J j)]) (λ⟨(_,c),_⟩=>[(909,some (.box (bL c)))]) ?_ ?_
  ·exact⟨⟨rfl,rfl⟩,sq1,sq1⟩
  ·rintro⟨⟨j,c⟩,hj,hv⟩;conv=>whnf
   dsimp only at hj hv;by_cases hjl:(j:Int)<l.length
   ·have hjn:j<l.length:=ω;obtain⟨o,eo⟩:∃o,o=l.getD j 0:=⟨_,rfl⟩;have eo2:l.getD (j:Int).toNat 0=o:=by rw[eo];rfl
    have hin:ah o:=by
     have:=hl3.2 o (by rw[eo];exact a8 hjn);unfold ah;omega
    have p2:q0d 106 [n.av,a9 d,J i,J (0:Nat),J (l.getD (j:Int).toNat 0)] (a6 (bB n d i 0 o)):=by
     rw[eo2];exact l5 n d h hw hd i 0 hi ω o hin
    have hz0:(([]:List Int).length:Int)=0:=rfl;have hr2:((n.flows.getD (i:Int).toNat default).route.length:Int)=r+1:=by rw[χ,hr];rfl
    rw[ry hjn,<-eo]at hv;rcases hc:bB n d i 0 o with e|y
    ·have he:=n6 h hw hd hi ω hc;rw[n7 (ch:=[]) (by rw[show([]:List Int).length=0 from rfl,tp,Gy hc])]at hv;have hv:ky n d i D r [] z [] l (j+1) c=X:=hv;rw[hc]at p2;repeat'(first|(refine Λ hjl λhb=>?_;conv=>whnf)|(exact aL [] ⟨(j+1,c),hjn,hv⟩)|refine' ag|refine ab p2 ?_)
     all_goals try first|exact ariA|(exfalso;omega)|exact absurd ‹_› he
    ·have hy:=dY h hw hd hi ω hc;rw[hc]at p2;have p7:=AJ;have p8:=rx;rcases r with _|r
     ·rw[tq (ch:=[]) (y:=y) (qs:=[]) (by rw[show([]:List Int).length=0 from rfl,tp,show((0:Nat)==0)=true from rfl,DT hc])]at hv;have p5:q0c 71 ([.lptr 912 0]++.isl 1 1 (λ_=>[J (l.getD (j:Int).toNat 0)])::[y.av,.emp]) [(912,.box (fe n d i)),(909,.box (bL c))] (.tup []) [(912,.box (fe n d i)),(909,.box (bL (iJ n d i D 0 [o] y [] c)))]:=by
       rw[eo2];exact vH (hrec o y hy hin) c
      repeat'(first|(refine Λ hjl λhb=>?_;conv=>whnf)|(exact aL [] ⟨(j+1,iJ n d i D 0 [o] y [] c),hjn,hv⟩)|refine' ag|refine ab p2 ?_|refine ab p7 ?_|refine ab p8 ?_|(refine mC [.lptr 912 0] [y.av,.emp] p5 rfl rfl rfl ⟨rfl,rfl,trivial⟩ ⟨trivial,trivial,trivial,trivial⟩ (ξ _) (λi hi=>(by obtain rfl:i=0:=ω;rfl)) (λi hi=>(by obtain rfl:i=0:=ω;rfl)) ?_;conv=>whnf))
      all_goals try first|exact ariA|(exfalso;omega)|exact⟨ξ _,aW ω rfl⟩
     ·have p3:=Dp y hy (n.flows.getD i default).most ω;rcases hx:hopX y ((n.flows.getD i default).most-1)with e|y
      ·have he:=pq hy hx;subst he;rw[n7 (ch:=[]) (by rw[show([]:List Int).length=0 from rfl,tp,show(r+1==0)=false from rfl,Gz hc,hx])]at hv;have hv:ky n d i D (r+1) [] z [] l (j+1) c=X:=hv;rw[hx]at p3;repeat'(first|(refine Λ hjl λhb=>?_;conv=>whnf)|(exact aL [] ⟨(j+1,c),hjn,hv⟩)|refine' ag|refine ab p2 ?_|refine ab p3 ?_)
       all_goals try exact ariB
      ·have hy:=vq hy hx;rw[tq (ch:=[]) (y:=y) (qs:=[]) (by rw[show([]:List Int).length=0 from rfl,tp,show(r+1==0)=false from rfl,Gz hc,hx])]at hv;rw[hx]at p3;have p5:q0c 71 ([.lptr 912 0]++.isl 1 1 (λ_=>[J (l.getD (j:Int).toNat 0)])::[y.av,.emp]) [(912,.box (fe n d i)),(909,.box (bL c))] (.tup []) [(912,.box (fe n d i)),(909,.box (bL (iJ n d i D (r+1) [o] y [] c)))]:=by
        rw[eo2];exact vH (hrec o y hy hin) c
       repeat'(first|(refine Λ hjl λhb=>?_;conv=>whnf)|(exact aL [] ⟨(j+1,iJ n d i D (r+1) [o] y [] c),hjn,hv⟩)|refine' ag|refine ab p2 ?_|refine ab p3 ?_|refine ab p7 ?_|refine ab p8 ?_|(refine mC [.lptr 912 0] [y.av,.emp] p5 rfl rfl rfl ⟨rfl,rfl,trivial⟩ ⟨trivial,trivial,trivial,trivial⟩ (ξ _) (λi hi=>(by obtain rfl:i=0:=ω;rfl)) (λi hi=>(by obtain rfl:i=0:=ω;rfl)) ?_;conv=>whnf))
       all_goals try first|exact ariA|(exfalso;omega)|exact⟨ξ _,aW ω rfl⟩
   ·obtain rfl:j=l.length:=ω;rw[vE]at hv;repeat'(first|(refine Υ hjl λhb=>?_;conv=>whnf)|refine' ag|fail)
    all_goals try exact ariB
    exact aF ⟨c,rfl,⟨rfl,rfl,trivial⟩,hv⟩
theorem next_1(n:Net)(d:Xa)(h:NetOk n)(hw:NamesOk n)(hd:ShapeOk n d)(i:Nat)(hi:i<n.flows.length)(D:Curve->Except Int Dev)(hr:(n.flows.getD i default).route.length=2)(a:Int)(z:Curve)(hz:a7 z)
  (hrec:∀o y p,a7 y->ah o->vC n d i D 0 [a,o] y [p]):vC n d i D 1 [a] z []:=by
 intro c;have hfl:=h.flen;have hfo:FlowOk n.lines (n.flows.getD i default):=h.flow _ (by simp[hi]);have hsz:=hfo.sizes;have p1:=Dc n d h hd i 1 hi ω;have hz1:(([a]:List Int).length:Int)=1:=rfl;have hr2:((n.flows.getD (i:Int).toNat default).route.length:Int)=2:=by rw[χ,hr];rfl
 have hlen:¬((([a]:List Int).length:Nat):Int)=(n.flows.getD (i:Int).toNat default).route.length:=ω;rcases ho:gI n d i 1 with e|l
 ·have he:e≠0:=by
   unfold gI at ho;split at ho<;>cases ho;decide
  rw[vG (ch:=[a]) (r:=0) ho];rw[ho]at p1;suffices hh:∃x,x=c/\q0c 71 [.lptr 912 0,ints [a],z.av,slc 5 Spl.cells default []] [(912,.box (fe n d i)),(909,.box (bL c))] (.tup []) [(912,.box (fe n d i)),(909,.box (bL x))] by obtain⟨_,rfl,p⟩:=hh;exact p
  refine opE func71 ntmps71 results71 ?_ (hcl:=⟨rfl,rfl,jw n d i c⟩) (hco:=λc'=>⟨rfl,jw n d i c',rfl⟩);repeat'(first|(refine Υ hlen λhb=>?_;conv=>whnf)|refine' ag|refine ab p1 ?_)
  all_goals try first|exact ariA|(exfalso;omega)|exact absurd ‹_› he
  exact aF ⟨c,rfl,⟨rfl,rfl,trivial⟩,rfl⟩
 ·obtain⟨X,eX⟩:∃X,X=iJ n d i D 1 [a] z [] c:=⟨_,rfl⟩;have hX:ky n d i D 0 [a] z [] l 0 c=X:=by rw[eX];exact(vF (ch:=[a]) (r:=0) ho c).symm
  rw[<-eX];rw[ho]at p1;have hl3:=xr h hd hi ω ho;suffices hh:∃x,x=X/\q0c 71 [.lptr 912 0,ints [a],z.av,slc 5 Spl.cells default []] [(912,.box (fe n d i)),(909,.box (bL c))] (.tup []) [(912,.box (fe n d i)),(909,.box (bL x))] by obtain⟨_,rfl,p⟩:=hh;exact p
  refine opE func71 ntmps71 results71 ?_ (hcl:=⟨rfl,rfl,jw n d i c⟩) (hco:=λc'=>⟨rfl,jw n d i c',rfl⟩);repeat'(first|(refine Υ hlen λhb=>?_;conv=>whnf)|refine' ag|refine ab p1 ?_)
  all_goals try exact ariB
  refine ae (ι:={q:Nat×Cand//q.1<=l.length/\ky n d i D 0 [a] z [] l q.1 q.2=X}) [0,1,3,6,8,9,12,89] [6,8,912] [] ⟨(0,c),π _,hX⟩ (λ⟨(j,_),_⟩=>l.length-j) (λ⟨(j,_),_⟩=>[(90,J j)]) (λ⟨(_,c),_⟩=>[(909,some (.box (bL c)))]) ?_ ?_
  ·exact⟨⟨rfl,rfl⟩,sq1,sq1⟩
  ·rintro⟨⟨j,c⟩,hj,hv⟩;conv=>whnf
   dsimp only at hj hv;by_cases hjl:(j:Int)<l.length
   ·have hjn:j<l.length:=ω;obtain⟨o,eo⟩:∃o,o=l.getD j 0:=⟨_,rfl⟩;have eo2:l.getD (j:Int).toNat 0=o:=by rw[eo];rfl
    have hin:ah o:=by
     have:=hl3.2 o (by rw[eo];exact a8 hjn);unfold ah;omega
    have p2:q0d 106 [n.av,a9 d,J i,J (1:Nat),J (l.getD (j:Int).toNat 0)] (a6 (bB n d i 1 o)):=by
     rw[eo2];exact l5 n d h hw hd i 1 hi ω o hin
    rw[ry hjn,<-eo]at hv;rcases hc:bB n d i 1 o with e|y
    ·have he:=n6 h hw hd hi ω hc;rw[n7 (ch:=[a]) (by rw[show([a]:List Int).length=0+1 from rfl,xq,Gy hc])]at hv;have hv:ky n d i D 0 [a] z [] l (j+1) c=X:=hv;rw[hc]at p2;repeat'(first|(refine Λ hjl λhb=>?_;conv=>whnf)|(exact aL [] ⟨(j+1,c),hjn,hv⟩)|refine' ag|refine ab p2 ?_)
     all_goals try first|exact ariA|(exfalso;omega)|exact absurd ‹_› he
    ·have hy:=dY h hw hd hi ω hc;rw[hc]at p2;have p8:=rx;have p6:=F6 z y hz hy;rcases hp:dm z y with e|p
     ·obtain rfl:=yM (AA hp);rw[n7 (ch:=[a]) (by rw[show([a]:List Int).length=0+1 from rfl,xq,show((0:Nat)==0)=true from rfl,DT hc];dsimp only;rw[hp])]at hv;have hv:ky n d i D 0 [a] z [] l (j+1) c=X:=hv;rw[hp]at p6;repeat'(first|(refine Λ hjl λhb=>?_;conv=>whnf)|(exact aL [] ⟨(j+1,c),hjn,hv⟩)|refine' ag|refine ab p2 ?_|refine ab p8 ?_|refine ab p6 ?_)
      all_goals try exact ariB
     ·have hk:a7 p.res:=(dQ hz hy (pk hp).1).1;have po:=F9 hk;have p7:=pF [a] (φ:1<=1/\1<=17592186044416);rw[tq (ch:=[a]) (y:=p.res) (qs:=[p]) (by rw[show([a]:List Int).length=0+1 from rfl,xq,show((0:Nat)==0)=true from rfl,DT hc];dsimp only;rw[hp];rfl)]at hv;rw[hp]at p6;have p5:q0c 71 ([.lptr 912 0]++.isl 2 1 (λi=>bif Nat.beq i 0 then[J a]else[J (l.getD (j:Int).toNat 0)])::[p.res.av,.isl 1 5 λ_=>Spl.cells p]) [(912,.box (fe n d i)),(909,.box (bL c))] (.tup []) [(912,.box (fe n d i)),(909,.box (bL (iJ n d i D 0 [a,o] p.res [p] c)))]:=by
       rw[eo2];exact DU (hrec o p.res p hk hin) c
      repeat'(first|(refine Λ hjl λhb=>?_;conv=>whnf)|(exact aL [] ⟨(j+1,iJ n d i D 0 [a,o] p.res [p] c),hjn,hv⟩)|(refine am [0,1,3,6,8,9,12,14,89,90] [6,8,912,909] [] [(15,.lptr 15 0),(17,.osl 149 1)] [(15,some (.box p.res.cells)),(149,some (.arr 1 5 (λ_=>Spl.cells p) 138))] ⟨⟨rfl,rfl⟩,?_,?_⟩ ?_;(solve|((refine' subP)<;>first|exact q0b rfl (λi hi=>(by obtain rfl:i=0:=ω;rfl))|exact sq1));(solve|((refine' subP)<;>first|exact q0b rfl (λi hi=>(by obtain rfl:i=0:=ω;rfl))|exact sq1));(conv=>whnf);(refine ax 149 rfl rfl (λ_ _=>rfl) ?_ ?_ ?_;(solve|try refine' frzZ);(solve|try refine' frzZ));(conv=>whnf))|refine' ag|refine ab p2 ?_|refine ab p8 ?_|refine ab p6 ?_|refine ab po ?_|(refine cO p7 rfl ?_;conv=>whnf)|(refine mC [.lptr 912 0] [p.res.av,.isl 1 5 λ_=>Spl.cells p] p5 rfl rfl rfl ⟨rfl,rfl,trivial⟩ ⟨trivial,trivial,trivial,trivial⟩ (ξ _) (λi hi=>(by rcases(ω:i=0\/i=1)with rfl|rfl<;>rfl)) (λi hi=>(by rcases(ω:i=0\/i=1)with rfl|rfl<;>rfl)) ?_;conv=>whnf))
      all_goals try first|exact ariA|(exfalso;omega)|exact⟨ξ _,aW ω rfl⟩
   ·obtain rfl:j=l.length:=ω;rw[vE]at hv;repeat'(first|(refine Υ hjl λhb=>?_;conv=>whnf)|refine' ag|fail)
    all_goals try exact ariB
    exact aF ⟨c,rfl,⟨rfl,rfl,trivial⟩,hv⟩
end Go.Nc