/- Parts. -/
import Derived.Test.YtooapceogfengaaGreatNdBNA
namespace Go.Nc
open Go.Proofs.Tryz
set_option maxHeartbeats 8000000
structure Bnd where
 found:Bool
 value:Int
 meth:Int
 choice:List Int
abbrev eh:=Bnd×List Spl
def rE:Bnd:=⟨false,0,0,[]⟩
def cC(c:eh)(x:Bnd)(ps:List Spl):eh:=if c.1.found=false\/x.value<c.1.value then(x,ps)else c
def iC(D:Curve->Except Int eK)(c:eh)(p:List Int×Curve×List Spl):eh:=match cB (D p.2.1)with
 |.ok v=>cC c ⟨true,v,2,p.1⟩ p.2.2
 |.error _=>c
noncomputable def ko(n:Net)(d:Xa)(i k:Nat)(last:Bool)(o:Int):Except Int Curve:=match bu n d i k o with
 |.error e=>.error e
 |.ok z=>if last then .ok z else n4 z ((n.flows.getD i default).most-1)
noncomputable def jN(n:Net)(d:Xa)(i k:Nat)(last:Bool)(z:Curve)(ps:List Spl)(o:Int):Option (Curve×List Spl):=match ko n d i k last o with
 |.error _=>none
 |.ok y=>if k=0 then some (y,ps)else match c7 z y with
  |.error _=>none
  |.ok p=>some (p.res,ps++[p])
noncomputable def pf(n:Net)(d:Xa)(i:Nat):Nat->List Int->Curve->List Spl->List (List Int×Curve×List Spl)
 |0,ch,z,ps=>[(ch,z,ps)]
 |r+1,ch,z,ps=>match dT n d i ch.length with
  |.error _=>[]
  |.ok l=>l.flatMap λo=>match jN n d i ch.length (r==0) z ps o with
   |none=>[]
   |some y=>pf n d i r (ch++[o]) y.1 y.2
noncomputable def fk(n:Net)(d:Xa)(i:Nat)(D:Curve->Except Int eK)(r:Nat)(ch:List Int)(z:Curve)(ps:List Spl)(c:eh):eh:=(pf n d i r ch z ps).foldl (iC D) c
theorem hZ(c:eh)(x:Bnd)(ps:List Spl)(h:x.found=true):(cC c x ps).1.found=true:=by
 unfold cC;split
 .exact h
 .rename_i g;cases hf:c.1.found with
  |true=>rfl
  |false=>exact absurd (.inl hf) g
theorem qY(c:eh)(x:Bnd)(ps:List Spl):(cC c x ps).1.value<=x.value/\(c.1.found=true->(cC c x ps).1.value<=c.1.value):=by
 unfold cC;split
 .rename_i g;refine⟨Int.le_refl _,λh=>?_⟩;rcases g with g|g
  .rw[h]at g;cases g
  .exact Int.le_of_lt g
 .rename_i g;exact⟨by have:=λh=>g (.inr h);omega,λ_=>Int.le_refl _⟩
theorem qZ(c:eh)(x:Bnd)(ps:List Spl):cC c x ps=(x,ps)\/cC c x ps=c:=by
 unfold cC;split
 .exact .inl rfl
 .exact .inr rfl
theorem Fp(D:Curve->Except Int eK)(c:eh)(p:List Int×Curve×List Spl)(h:c.1.found=true):(iC D c p).1.found=true/\(iC D c p).1.value<=c.1.value:=by
 unfold iC;split
 .exact⟨hZ _ _ _ rfl,(qY _ _ _).2 h⟩
 .exact⟨h,Int.le_refl _⟩
theorem yR(D:Curve->Except Int eK):∀(l:List (List Int×Curve×List Spl)) (c:eh),
  (c.1.found=true->(l.foldl (iC D) c).1.found=true/\(l.foldl (iC D) c).1.value<=c.1.value)/\
  (∀p∈l,∀v,cB (D p.2.1)=.ok v->(l.foldl (iC D) c).1.found=true/\(l.foldl (iC D) c).1.value<=v)/\
  (l.foldl (iC D) c=c\/∃p∈l,∃v,cB (D p.2.1)=.ok v/\l.foldl (iC D) c=(⟨true,v,2,p.1⟩,p.2.2))
 |[],c=>⟨λh=>⟨h,Int.le_refl _⟩,λp H=>by simp at H,.inl rfl⟩
 |q::l,c=>by
  obtain⟨d,f,b⟩:=yR D l (iC D c q);rw[List.foldl_cons];refine⟨λh=>?_,λp H v a=>?_,?_⟩
  .obtain⟨k,g⟩:=Fp D c q h;obtain⟨K,i⟩:=d k;exact⟨K,Z⟩
  .rcases List.mem_cons.1 H with e|H
   .subst e;have E:iC D c p=cC c ⟨true,v,2,p.1⟩ p.2.2:=by unfold iC;rw[a]
    have k:(iC D c p).1.found=true:=by rw[E];exact hZ _ _ _ rfl
    have g:(iC D c p).1.value<=v:=by rw[E];exact(qY _ _ _).1
    obtain⟨K,i⟩:=d k;exact⟨K,Z⟩
   .exact f p H v a
  .rcases b with b|⟨p,H,v,a,e⟩
   .rw[b];unfold iC;rcases a:cB (D q.2.1)with e|v
    .exact .inl rfl
    .dsimp only;rcases qZ c ⟨true,v,2,q.1⟩ q.2.2 with e|e
     .exact .inr ⟨q,by simp,v,a,e⟩
     .exact .inl e
   .exact .inr ⟨p,List.mem_cons_of_mem _ H,v,a,e⟩
theorem gK{n:Net}{d:Xa}{i r:Nat}{ch:List Int}{z:Curve}{ps:List Spl}{l:List Int}(h:dT n d i ch.length=.ok l) :
  pf n d i (r+1) ch z ps=l.flatMap λo=>match jN n d i ch.length (r==0) z ps o with
   |none=>[]
   |some y=>pf n d i r (ch++[o]) y.1 y.2:=by
 show(match dT n d i ch.length with |.error _=>[]|.ok l=>_)=_;rw[h]
open Go.Proofs
def xb(x:Bnd):List AV:=[.bool x.found,J x.value,J x.meth,c4 x.choice]
def bX(c:eh):List AV:=[.bool c.1.found,J c.1.value,J c.1.meth,c4 c.1.choice,iB 5 Spl.cells default c.2]
theorem xn(c:eh)(x:Bnd)(ps:List Spl):fl 70 [.lptr 909 0,.agg (xb x),iB 5 Spl.cells default ps] [(909,.box (bX c))] (.tup []) [(909,.box (bX (cC c x ps)))]:=by
 obtain⟨⟨f,v,m,ch⟩,qs⟩:=c;rcases f with _|_
 .rw[show cC (⟨false,v,m,ch⟩,qs) x ps=(x,ps)from if_pos (.inl rfl)];refine ee func70 ntmps70 results70 (λ_ _ _=>?_) (hcl:=⟨rfl,rfl,rfl,bW rfl,bW rfl,rfl⟩);repeat'(first|refine' gM|fail)
  all_goals first|exact Y|rfl|(exfalso;omega)
 .by_cases h:x.value<v
  .rw[show cC (⟨true,v,m,ch⟩,qs) x ps=(x,ps)from if_pos (.inr h)];refine ee func70 ntmps70 results70 (λ_ _ _=>?_) (hcl:=⟨rfl,rfl,rfl,bW rfl,bW rfl,rfl⟩);repeat'(first|(refine U h λhb=>?_;conv=>whnf)|refine' gM|fail)
   all_goals first|exact Y|rfl|(exfalso;omega)
  .rw[show cC (⟨true,v,m,ch⟩,qs) x ps=(⟨true,v,m,ch⟩,qs)from if_neg (by rintro(H|H);cases H;exact h H)];refine ee func70 ntmps70 results70 (λ_ _ _=>?_) (hcl:=⟨rfl,rfl,rfl,bW rfl,bW rfl,rfl⟩);repeat'(first|(refine M h λhb=>?_;conv=>whnf)|refine' gM|fail)
   all_goals first|exact Y|rfl|(exfalso;omega)
open Go.Proofs Go.RowKit
set_option maxRecDepth 100000 in
theorem tm(w:World)(p:Option Addr)(c:Nat):Calls prog 104 #[.slice p 0 c] w λe W=>(∃q,e=.returned (.slice q 0 0))/\Below w.heap.size w W:=by
 have H:=aD 138 _ rfl;have h:prog.underlying 47=some (.slice 138):=(aD 47 _ rfl).slice rfl;have Q:∀(w:World) (a:Option Addr) (n c N C:Nat),(binOp .eql 47 (.slice a n c) (.slice none N C)).run prog w=.ok (.bool a.isNone) w:=λw a n c N C=>Lib.run_eql_slice_nil w _ _ a n c N C h;have u:∀w,Sem.run prog (underlying 47) w=.ok (TypeDesc.slice 138) w:=run_underlying h;cases p with
 |none=>
  go_enter func104,ntmps104
  go_wp2
  go_ret
  exact⟨⟨none,rfl⟩,Below.refl _ _⟩
 |some a=>
  go_enter func104,ntmps104
  go_wp2_with (at_builtin;refine jh rfl _ _ 47 rfl h H _ _ _ rfl rfl ?_)
  go_ret
  exact⟨⟨_,rfl⟩,(Below.refl _ w).alloc (ξ _) _⟩
theorem Cc(l:List Spl)(H:1<=l.length/\l.length<=1099511627776):bx 104 [iB 5 Spl.cells default l] (iB 5 Spl.cells default l):=by
 refine ee func104 ntmps104 results104 λ_ _ _=>?_;repeat'(first|refine' gN|(refine bI [] [] [] [(2,.osl 7 l.length)] [(7,some (.arr l.length 5 (λi=>Spl.cells (l.getD i default)) 138))] ⟨⟨rfl,rfl⟩,?_,?_⟩ (c8 7 rfl rfl (λ_ _=>rfl) ?_ ?_ (dC ?_))))
 all_goals try omega
 .skip;all_goals((refine' b9)<;>first|exact cy Z λi h=>rfl|exact bt)
 .skip;all_goals((refine' b9)<;>first|exact Θ (congrArg (AV.osl 7) Z)|exact bt)
 .all_goals try refine' b8
 .exact⟨λi h=>by(repeat'(first|exact True.intro|refine And.intro ?_ ?_)),trivial⟩
 .exact Y
 .exact⟨Z,Ih Z (λ_ _=>rfl)⟩
theorem Fq(l:List Spl)(h:l.length<=1099511627776):bx 104 [iB 5 Spl.cells default l] (iB 5 Spl.cells default l):=by
 rcases l with _|⟨x,r⟩
 .exact CallSpec.empty (uT func104 rfl (by kernel_rfl)) tm 5 5 _ _
 .exact Cc (x::r) ⟨by simp,h⟩
theorem nG{P:Program}{f:FuncId}(us v:List AV){o:Xd}{k:List Nat->AV->Xb->Prop}{r:AV}{id n m sz T:Nat}{G g:Nat->List AV}{I outs:Xc}(h:CallSpec P f (us++.isl n sz G::v) I r outs)
  (a:e7 I id=none) (b:e7 outs id=none) (p:o id=some (.arr m sz g T)) (d:e8 o I) (H:fK o ((id,.arr m sz g T)::I) ((id,.dead)::outs)) (e:n<=m) (j:∀i,i<n->g i=G i) (c:∀i,i<m->ka [] (g i)=true)
  (l:k (((id,LObj.arr m sz g T)::I).map (·.1)++((id,LObj.dead)::outs).map (·.1)) r (aW ((id,.dead)::outs))):vCall P f (us++.osl id n::v) o k :=
 ⟨r,_,_,h.thaw id e j c a b,⟨p,d⟩,H,l⟩
theorem Fr{P:Program}{f:FuncId}(n:∀(X:Array Value) (w:World),(callFunc f X).run P w=.ok (.enter f X) w)
  (h:∀(w:World) (p:Option Addr) (c:Nat),Calls P f #[.slice p 0 c] w λe W=>(∃q,e=.returned (.slice q 0 0))/\Below w.heap.size w W) (sz:Nat) (g:Nat->List AV):CallSpec P f [.isl 0 sz g] [] .emp []:=by
 refine⟨n,λid o h=>(by cases h),λid o h=>(by cases h),λw ρ Im X u v=>?_⟩;obtain⟨p,c,rfl⟩:∃p c,X= #[.slice p 0 c]:=by
  obtain⟨d,j⟩:=v;obtain⟨x,rfl⟩:∃x,X= #[x]:=by
   obtain⟨l⟩:=X;match l,d with
   |[x],_=>exact⟨x,rfl⟩
  have k:=j 0 _ x rfl rfl;rcases k.isl_inv with⟨_,p,rfl⟩|⟨b,y,cap,a,T,fr,rfl,_⟩
  .exact⟨p,0,rfl⟩
  .exact⟨_,cap,rfl⟩
 refine(h w p c).mono λe W hb=>?_;obtain⟨⟨q,rfl⟩,hb⟩:=hb;refine⟨_,ρ,Im,rfl,.imm _ _ (.emp q),λi s=>(by cases s),?_⟩;refine ⟨fun id o h=>(by cases h),fun id o b h=>(by cases h),fun id I o O b h=>(by cases h),fun id o h=>(by cases h),fun b m=>Nat.lt_of_lt_of_le (u.imlt b m) hb.size,fun _ h=>h,fun _ h=>.inl h,
  hb.os,hb.tape,hb.output,hb.size,λb H _=>hb.block b H,λid h=>(by cases h),λl r h=>⟨r.state,r.pending,?_⟩,λl h=>(by cases h)⟩
 have t:l<w.heap.size:=(Array.getElem?_eq_some_iff.1 h).1;rw[hb.block l t];exact h
theorem Cd:bx 103 [c4 []] .emp:=Fr (uT func103 rfl (by kernel_rfl)) Cb 1 _
theorem tn:bx 104 [iB 5 Spl.cells default []] .emp:=Fr (uT func104 rfl (by kernel_rfl)) tm 5 _
def fI(n:Net)(d:Xa)(i:Nat):List AV:=n.cells++[aB d,J i,.lptr 909 0]
def xo(n:Net)(d:Xa)(i:Nat)(D:Curve->Except Int eK)(r:Nat)(ch:List Int)(z:Curve)(ps:List Spl):Prop :=
 ∀c:eh,fl 71 [.lptr 912 0,c4 ch,z.av,iB 5 Spl.cells default ps] [(912,.box (fI n d i)),(909,.box (bX c))] (.tup []) [(912,.box (fI n d i)),(909,.box (bX (fk n d i D r ch z ps c)))]
theorem cl2{l:Xc}{a b:Nat×LObj}(h:l=[a,b])(c:eu (l.map (·.1)) a.2)(hb:eu (l.map (·.1)) b.2):∀p∈l,eu (l.map (·.1)) p.2:=by
 subst h;intro p H;simp only[List.mem_cons,List.not_mem_nil,or_false]at H;rcases H with rfl|rfl
 .exact c
 .exact hb
theorem xp(n:Net)(d:Xa)(h:NetOk n)(i:Nat)(o:i<n.flows.length)(D:Curve->Except Int eK)(j:DelF (n.flows.getD i default).con D)(ch:List Int)(l:ch.length=(n.flows.getD i default).route.length)(z:Curve)(k:ar z)(ps:List Spl)(r:ps.length<=10):xo n d i D 0 ch z ps:=by
 intro c;have m:=h.flen;have g:FlowOk n.lines (n.flows.getD i default):=h.flow _ (by simp[o]);have q:=g.ne;have H:(ch.length:Int)=(n.flows.getD (i:Int).toNat default).route.length:=by rw[χ];omega
 have P:=j.spec z k;have f:=j.err z;have t:=i8 ch Z;have u:=Fq ps Z;show CallSpec _ _ _ _ _ [_,(909,.box (bX (iC D c (ch,z,ps))))];unfold iC;dsimp only;have hcl:∀c:eh,∀p∈[(912,LObj.box (fI n d i)),(909,.box (bX c))],eu ([(912,LObj.box (fI n d i)),(909,.box (bX c))].map (·.1)) p.2:=λc=>cl2 rfl rfl rfl;rcases hx:D z with e|⟨b,v,w⟩
 .have f:=f e k hx;rw[hx]at P;show CallSpec _ _ _ _ _ [_,(909,.box (bX c))];refine ee func71 ntmps71 results71 (λ_ _ _=>?_) (hcl:=⟨rfl,rfl,rfl,hcl c,hcl c,rfl⟩);repeat'(first|(refine U H λhb=>?_;conv=>whnf)|refine' aj|(refine bk ⟨?_,rfl,rfl,trivial⟩;conv=>whnf))
  all_goals first|exact absurd ‹_› f|exact Y|exact⟨rfl,rfl,trivial⟩|rfl|omega|(exfalso;omega)
 .rw[hx]at P;by_cases a:b=true\/2000<v
  .rw[show cB (.ok (b,v,w))=.error 5 from if_pos a];dsimp only;rcases b with _|_
   .have a:¬v<=2000:=by
     rcases a with a|a
     .cases a
     .omega
    refine ee func71 ntmps71 results71 (λ_ _ _=>?_) (hcl:=⟨rfl,rfl,rfl,hcl c,hcl c,rfl⟩);repeat'(first|(refine M a λhb=>?_;conv=>whnf)|(refine U H λhb=>?_;conv=>whnf)|refine' aj|(refine bk ⟨?_,rfl,rfl,trivial⟩;conv=>whnf))
    all_goals first|exact Y|exact⟨rfl,rfl,trivial⟩|rfl|omega|(exfalso;omega)
   .refine ee func71 ntmps71 results71 (λ_ _ _=>?_) (hcl:=⟨rfl,rfl,rfl,hcl c,hcl c,rfl⟩);repeat'(first|(refine U H λhb=>?_;conv=>whnf)|refine' aj|(refine bk ⟨?_,rfl,rfl,trivial⟩;conv=>whnf))
    all_goals first|exact Y|exact⟨rfl,rfl,trivial⟩|rfl|omega|(exfalso;omega)
  .rw[show cB (.ok (b,v,w))=.ok v from if_neg a];dsimp only;rcases b with _|_
   .have a:v<=2000:=by
     have:=λh=>a (.inr h);omega
    have s:=xn c ⟨true,v,2,ch⟩ ps;refine ee func71 ntmps71 results71 (λ_ _ _=>?_) (hcl:=⟨rfl,rfl,rfl,hcl c,hcl _,rfl⟩);repeat'(first|(refine U a λhb=>?_;conv=>whnf)|(refine U H λhb=>?_;conv=>whnf)|refine' aj|(refine bk ⟨?_,rfl,rfl,trivial⟩;conv=>whnf)|refine cn s ?_)
    all_goals first|exact Y|exact⟨rfl,rfl,trivial⟩|rfl|omega|(exfalso;omega)
   .exact absurd (.inl rfl) a
theorem Nf{sz:Nat}{g:Nat -> List AV}:AvLe .emp (.isl 0 sz g):=⟨fun _ _ _ _ h=>by
 cases h with
 |imm _ _ h=>cases h with
  |emp p=>exact .imm _ _ (.isl0 _ _ _)⟩
theorem Hq(o:Int):∀i,i<1->[J o]=[J (([o]:List Int).getD i 0)]:=λi h=>by
 obtain rfl:i=0:=Z;rfl
theorem nH{n:Net}{d:Xa}{i:Nat}{last:Bool}{z:Curve}{ps:List Spl}{o:Int}:jN n d i 0 last z ps o=match ko n d i 0 last o with
 |.error _=>none
 |.ok y=>some (y,ps):=rfl
theorem uU{n:Net}{d:Xa}{i k:Nat}{last:Bool}{z:Curve}{ps:List Spl}{o:Int}:jN n d i (k+1) last z ps o=match ko n d i (k+1) last o with
 |.error _=>none
 |.ok y=>match c7 z y with
  |.error _=>none
  |.ok p=>some (p.res,ps++[p]):=rfl
theorem Ii{n:Net}{d:Xa}{i k:Nat}{last:Bool}{o e:Int}(h:bu n d i k o=.error e):ko n d i k last o=.error e:=by
 unfold ko;rw[h]
theorem Fs{n:Net}{d:Xa}{i k:Nat}{o:Int}{y:Curve}(h:bu n d i k o=.ok y):ko n d i k true o=.ok y:=by
 unfold ko;rw[h];rfl
theorem Ij{n:Net}{d:Xa}{i k:Nat}{o:Int}{y:Curve}(h:bu n d i k o=.ok y):ko n d i k false o=n4 y ((n.flows.getD i default).most-1):=by
 unfold ko;rw[h];rfl
noncomputable def NI(n:Net)(d:Xa)(i r:Nat)(ch:List Int)(z:Curve)(ps:List Spl)(o:Int):List (List Int×Curve×List Spl):=match jN n d i ch.length (r==0) z ps o with
 |none=>[]
 |some y=>pf n d i r (ch++[o]) y.1 y.2
theorem oL{n:Net}{d:Xa}{i r:Nat}{ch:List Int}{z:Curve}{ps:List Spl}{o:Int}(h:jN n d i ch.length (r==0) z ps o=none):NI n d i r ch z ps o=[]:=by
 unfold NI;rw[h]
theorem uV{n:Net}{d:Xa}{i r:Nat}{ch:List Int}{z y:Curve}{ps qs:List Spl}{o:Int}(h:jN n d i ch.length (r==0) z ps o=some (y,qs)):NI n d i r ch z ps o=pf n d i r (ch++[o]) y qs:=by
 unfold NI;rw[h]
noncomputable def l6(n:Net)(d:Xa)(i:Nat)(D:Curve->Except Int eK)(r:Nat)(ch:List Int)(z:Curve)(ps:List Spl)(l:List Int)(j:Nat)(c:eh):eh:=((l.drop j).flatMap (NI n d i r ch z ps)).foldl (iC D) c
theorem tp{n:Net}{d:Xa}{i:Nat}{D:Curve->Except Int eK}{r:Nat}{ch:List Int}{z:Curve}{ps:List Spl}{l:List Int}{j:Nat}(h:j<l.length)(c:eh) :
  l6 n d i D r ch z ps l j c=l6 n d i D r ch z ps l (j+1) ((NI n d i r ch z ps (l.getD j 0)).foldl (iC D) c):=by
 unfold l6;rw[bZ h,List.flatMap_cons,List.foldl_append]
theorem xq{n:Net}{d:Xa}{i:Nat}{D:Curve->Except Int eK}{r:Nat}{ch:List Int}{z:Curve}{ps:List Spl}{l:List Int}(c:eh):l6 n d i D r ch z ps l l.length c=c:=by
 unfold l6;rw[List.drop_length];rfl
theorem xr{n:Net}{d:Xa}{i:Nat}{D:Curve->Except Int eK}{r:Nat}{ch:List Int}{z:Curve}{ps:List Spl}{l:List Int}(h:dT n d i ch.length=.ok l)(c:eh):fk n d i D (r+1) ch z ps c=l6 n d i D r ch z ps l 0 c:=by
 unfold fk l6;rw[gK h,List.drop_zero];rfl
theorem xt{n:Net}{d:Xa}{i:Nat}{D:Curve->Except Int eK}{r:Nat}{ch:List Int}{z:Curve}{ps:List Spl}{e:Int}(h:dT n d i ch.length=.error e)(c:eh):fk n d i D (r+1) ch z ps c=c:=by
 unfold fk pf;rw[h];rfl
theorem jO(n:Net)(d:Xa)(i:Nat)(c:eh):∀p∈[(912,LObj.box (fI n d i)),(909,.box (bX c))],eu ([(912,LObj.box (fI n d i)),(909,.box (bX c))].map (·.1)) p.2:=cl2 rfl rfl rfl
theorem xu{n:Net}{d:Xa}{i:Nat}{D:Curve->Except Int eK}{r:Nat}{o:Int}{y:Curve}(h:xo n d i D r [o] y [])(c:eh) :
  fl 71 ([.lptr 912 0]++.isl 1 1 (λ_=>[J o])::[y.av,.emp]) [(912,.box (fI n d i)),(909,.box (bX c))] (.tup []) [(912,.box (fI n d i)),(909,.box (bX (fk n d i D r [o] y [] c)))] :=
 (h c).arg (.cons Y (.cons (Γ rfl (Hq o)) (.cons Y (.cons Nf .nil))))
theorem rd{n:Net}{d:Xa}(h:NetOk n)(b:ShapeOk n d){i k:Nat}(j:i<n.flows.length)(c:k<(n.flows.getD i default).route.length){l:List Int}(e:dT n d i k=.ok l):(1<=l.length/\l.length<=3)/\∀x∈l,0<=x/\x<=401:=by
 have H:FlowOk n.lines (n.flows.getD i default):=h.flow _ (by simp[j]);have o:=H.lines _ (a8 (l:=(n.flows.getD i default).route) (i:=k) c);have p:=H.cls2 _ (a8 (l:=(n.flows.getD i default).route) (i:=k) c);have m:=H.cls;have q:=b.row ((n.flows.getD i default).route.getD k 0).toNat Z;have f:=b.val ((n.flows.getD i default).route.getD k 0).toNat (n.flows.getD i default).class_.toNat Z Z;unfold dT at e;split at e
 .cases e
 .rename_i g;obtain⟨v,E⟩:∃v,v=(d.getD ((n.flows.getD i default).route.getD k 0).toNat []).getD (n.flows.getD i default).class_.toNat 0:=⟨_,rfl⟩;rw[<-E]at e f g;cases e;unfold K3;split
  .refine⟨by simp,λx a=>?_⟩;simp only[List.mem_cons,List.not_mem_nil,or_false]at a;omega
  .refine⟨by simp,λx a=>?_⟩;simp only[List.mem_cons,List.not_mem_nil,or_false]at a;omega
theorem Hr(a b:Int):∀i,i<2->(bif Nat.beq i 0 then[J a]else[J b])=[J (([a,b]:List Int).getD i 0)]:=λi h=>by
 rcases(Z:i=0\/i=1)with rfl|rfl<;>rfl
theorem JJ(p:Spl):∀i,i<1->Spl.cells p=Spl.cells (([p]:List Spl).getD i default):=λi h=>by
 obtain rfl:i=0:=Z;rfl
theorem Ft{n:Net}{d:Xa}{i:Nat}{D:Curve->Except Int eK}{a o:Int}{y:Curve}{p:Spl}(h:xo n d i D 0 [a,o] y [p])(c:eh) :
  fl 71 ([.lptr 912 0]++.isl 2 1 (λi=>bif Nat.beq i 0 then[J a]else[J o])::[y.av,.isl 1 5 λ_=>Spl.cells p]) [(912,.box (fI n d i)),(909,.box (bX c))] (.tup []) [(912,.box (fI n d i)),(909,.box (bX (fk n d i D 0 [a,o] y [p] c)))] :=
 (h c).arg (.cons Y (.cons (Γ rfl (Hr a o)) (.cons Y (.cons (Γ rfl (JJ p)) .nil))))
theorem Ik(n:Net)(d:Xa)(h:NetOk n)(G:NamesOk n)(u:ShapeOk n d)(i:Nat)(g:i<n.flows.length)(D:Curve->Except Int eK)(r:Nat)(K:(n.flows.getD i default).route.length=r+1)(z:Curve)
  (m:∀o y,ar y->ah o->xo n d i D r [o] y []):xo n d i D (r+1) [] z []:=by
 intro c;have R:=h.flen;have w:FlowOk n.lines (n.flows.getD i default):=h.flow _ (by simp[g]);have hsz:=w.sizes;have V:=w.ne;have L:=Eo n d h u i 0 g Z;obtain⟨f,ef⟩:∃f,f=n.flows.getD i default:=⟨_,rfl⟩;have k:¬((([]:List Int).length:Nat):Int)=(n.flows.getD (i:Int).toNat default).route.length:=by rw[χ,K];simp;omega
 rcases ho:dT n d i 0 with e|l
 .have v:e≠0:=by
   unfold dT at ho;split at ho<;>cases ho;decide
  rw[xt (ch:=[]) (r:=r) ho];rw[ho]at L;suffices B:∃x,x=c/\fl 71 [.lptr 912 0,c4 [],z.av,iB 5 Spl.cells default []] [(912,.box (fI n d i)),(909,.box (bX c))] (.tup []) [(912,.box (fI n d i)),(909,.box (bX x))] by obtain⟨_,rfl,p⟩:=B;exact p
  refine dp func71 ntmps71 results71 ?_ (hcl:=⟨rfl,rfl,jO n d i c⟩) (hco:=λC=>⟨rfl,jO n d i C,rfl⟩);repeat'(first|(refine M k λhb=>?_;conv=>whnf)|refine' ag|fail)
  all_goals try first|exact bs|(exfalso;omega)|exact absurd ‹_› v
  exact aJ ⟨c,rfl,⟨rfl,rfl,trivial⟩,rfl⟩
 .obtain⟨X,I⟩:∃X,X=fk n d i D (r+1) [] z [] c:=⟨_,rfl⟩;have Q:l6 n d i D r [] z [] l 0 c=X:=by rw[I];exact(xr (ch:=[]) (r:=r) ho c).symm
  rw[<-I];rw[ho]at L;have F:=rd h u g Z ho;suffices B:∃x,x=X/\fl 71 [.lptr 912 0,c4 [],z.av,iB 5 Spl.cells default []] [(912,.box (fI n d i)),(909,.box (bX c))] (.tup []) [(912,.box (fI n d i)),(909,.box (bX x))] by obtain⟨_,rfl,p⟩:=B;exact p
  refine dp func71 ntmps71 results71 ?_ (hcl:=⟨rfl,rfl,jO n d i c⟩) (hco:=λC=>⟨rfl,jO n d i C,rfl⟩);repeat'(first|(refine M k λhb=>?_;conv=>whnf)|refine' ag|fail)
  all_goals try exact ez
  refine ae (ι:={q:Nat×eh//q.1<=l.length/\l6 n d i D r [] z [] l q.1 q.2=X}) [0,1,3,6,8,9,12,89] [6,8,912] [] ⟨(0,c),π _,Q⟩ (λ⟨(j,_),_⟩=>l.length-j) (λ⟨(j,_),_⟩=>[(90,J j)]) (λ⟨(_,c),_⟩=>[(909,some (.box (bX c)))]) ?_ ?_
  .exact⟨⟨rfl,rfl⟩,bt,bt⟩
  .rintro⟨⟨j,c⟩,S,H⟩;conv=>whnf
   dsimp only at S H;by_cases b:(j:Int)<l.length
   .have a:j<l.length:=Z;obtain⟨o,A⟩:∃o,o=l.getD j 0:=⟨_,rfl⟩;have E:l.getD (j:Int).toNat 0=o:=by rw[A];rfl
    have s:ah o:=by
     have:=F.2 o (by rw[A];exact a8 a);unfold ah;omega
    have N:bx 106 [n.av,aB d,J i,J (0:Nat),J (l.getD (j:Int).toNat 0)] (ay (bu n d i 0 o)):=by
     rw[E];exact m9 n d h G u i 0 g Z o s
    have hz0:(([]:List Int).length:Int)=0:=rfl;have W:((n.flows.getD (i:Int).toNat default).route.length:Int)=r+1:=by rw[χ,K];rfl
    rw[tp a,<-A]at H;rcases hc:bu n d i 0 o with e|y
    .have v:=mI h G u g Z hc;rw[oL (ch:=[]) (by rw[show([]:List Int).length=0 from rfl,nH,Ii hc])]at H;have H:l6 n d i D r [] z [] l (j+1) c=X:=H;rw[hc]at N;repeat'(first|(refine U b λhb=>?_;conv=>whnf)|(exact aH [] ⟨(j+1,c),a,H⟩)|refine' ag|fail)
     all_goals try first|exact bs|(exfalso;omega)|exact absurd ‹_› v
    .have t:=dN h G u g Z hc;rw[hc]at N;have p7:=Cd;have p8:=tn;rcases r with _|r
     .rw[uV (ch:=[]) (y:=y) (qs:=[]) (by rw[show([]:List Int).length=0 from rfl,nH,show((0:Nat)==0)=true from rfl,Fs hc])]at H;have P:fl 71 ([.lptr 912 0]++.isl 1 1 (λ_=>[J (l.getD (j:Int).toNat 0)])::[y.av,.emp]) [(912,.box (fI n d i)),(909,.box (bX c))] (.tup []) [(912,.box (fI n d i)),(909,.box (bX (fk n d i D 0 [o] y [] c)))]:=by
       rw[E];exact xu (m o y t s) c
      repeat'(first|(refine U b λhb=>?_;conv=>whnf)|(exact aH [] ⟨(j+1,fk n d i D 0 [o] y [] c),a,H⟩)|refine' ag|(refine nG [.lptr 912 0] [y.av,.emp] P rfl rfl rfl ⟨rfl,rfl,trivial⟩ ⟨trivial,trivial,trivial,trivial⟩ (ξ _) (λi g=>(by obtain rfl:i=0:=Z;rfl)) (λi g=>(by obtain rfl:i=0:=Z;rfl)) ?_;conv=>whnf))
      all_goals try first|exact bs|(exfalso;omega)|exact⟨ξ _,aL Z rfl⟩
     .have O:=Ez y t (n.flows.getD i default).most Z;rcases hx:n4 y ((n.flows.getD i default).most-1)with e|y
      .have v:=lx t hx;subst v;rw[oL (ch:=[]) (by rw[show([]:List Int).length=0 from rfl,nH,show(r+1==0)=false from rfl,Ij hc,hx])]at H;have H:l6 n d i D (r+1) [] z [] l (j+1) c=X:=H;rw[hx]at O;repeat'(first|(refine U b λhb=>?_;conv=>whnf)|(exact aH [] ⟨(j+1,c),a,H⟩)|refine' ag|fail)
       all_goals try exact ez
      .have t:=wU t hx;rw[uV (ch:=[]) (y:=y) (qs:=[]) (by rw[show([]:List Int).length=0 from rfl,nH,show(r+1==0)=false from rfl,Ij hc,hx])]at H;rw[hx]at O;have P:fl 71 ([.lptr 912 0]++.isl 1 1 (λ_=>[J (l.getD (j:Int).toNat 0)])::[y.av,.emp]) [(912,.box (fI n d i)),(909,.box (bX c))] (.tup []) [(912,.box (fI n d i)),(909,.box (bX (fk n d i D (r+1) [o] y [] c)))]:=by
        rw[E];exact xu (m o y t s) c
       repeat'(first|(refine U b λhb=>?_;conv=>whnf)|(exact aH [] ⟨(j+1,fk n d i D (r+1) [o] y [] c),a,H⟩)|refine' ag|(refine nG [.lptr 912 0] [y.av,.emp] P rfl rfl rfl ⟨rfl,rfl,trivial⟩ ⟨trivial,trivial,trivial,trivial⟩ (ξ _) (λi g=>(by obtain rfl:i=0:=Z;rfl)) (λi g=>(by obtain rfl:i=0:=Z;rfl)) ?_;conv=>whnf))
       all_goals try first|exact bs|(exfalso;omega)|exact⟨ξ _,aL Z rfl⟩
   .obtain rfl:j=l.length:=Z;rw[xq]at H;repeat'(first|(refine M b λhb=>?_;conv=>whnf)|refine' ag|fail)
    all_goals try exact ez
    exact aJ ⟨c,rfl,⟨rfl,rfl,trivial⟩,H⟩
theorem M2(n:Net)(d:Xa)(h:NetOk n)(F:NamesOk n)(m:ShapeOk n d)(i:Nat)(f:i<n.flows.length)(D:Curve->Except Int eK)(V:(n.flows.getD i default).route.length=2)(a:Int)(z:Curve)(L:ar z)
  (t:∀o y p,ar y->ah o->xo n d i D 0 [a,o] y [p]):xo n d i D 1 [a] z []:=by
 intro c;have R:=h.flen;have w:FlowOk n.lines (n.flows.getD i default):=h.flow _ (by simp[f]);have hsz:=w.sizes;have P:=Eo n d h m i 1 f Z;have hz1:(([a]:List Int).length:Int)=1:=rfl;have W:((n.flows.getD (i:Int).toNat default).route.length:Int)=2:=by rw[χ,V];rfl
 have k:¬((([a]:List Int).length:Nat):Int)=(n.flows.getD (i:Int).toNat default).route.length:=Z;rcases ho:dT n d i 1 with e|l
 .have v:e≠0:=by
   unfold dT at ho;split at ho<;>cases ho;decide
  rw[xt (ch:=[a]) (r:=0) ho];rw[ho]at P;suffices A:∃x,x=c/\fl 71 [.lptr 912 0,c4 [a],z.av,iB 5 Spl.cells default []] [(912,.box (fI n d i)),(909,.box (bX c))] (.tup []) [(912,.box (fI n d i)),(909,.box (bX x))] by obtain⟨_,rfl,p⟩:=A;exact p
  refine dp func71 ntmps71 results71 ?_ (hcl:=⟨rfl,rfl,jO n d i c⟩) (hco:=λC=>⟨rfl,jO n d i C,rfl⟩);repeat'(first|(refine M k λhb=>?_;conv=>whnf)|refine' ag|fail)
  all_goals try first|exact bs|(exfalso;omega)|exact absurd ‹_› v
  exact aJ ⟨c,rfl,⟨rfl,rfl,trivial⟩,rfl⟩
 .obtain⟨X,G⟩:∃X,X=fk n d i D 1 [a] z [] c:=⟨_,rfl⟩;have Q:l6 n d i D 0 [a] z [] l 0 c=X:=by rw[G];exact(xr (ch:=[a]) (r:=0) ho c).symm
  rw[<-G];rw[ho]at P;have B:=rd h m f Z ho;suffices A:∃x,x=X/\fl 71 [.lptr 912 0,c4 [a],z.av,iB 5 Spl.cells default []] [(912,.box (fI n d i)),(909,.box (bX c))] (.tup []) [(912,.box (fI n d i)),(909,.box (bX x))] by obtain⟨_,rfl,p⟩:=A;exact p
  refine dp func71 ntmps71 results71 ?_ (hcl:=⟨rfl,rfl,jO n d i c⟩) (hco:=λC=>⟨rfl,jO n d i C,rfl⟩);repeat'(first|(refine M k λhb=>?_;conv=>whnf)|refine' ag|fail)
  all_goals try exact ez
  refine ae (ι:={q:Nat×eh//q.1<=l.length/\l6 n d i D 0 [a] z [] l q.1 q.2=X}) [0,1,3,6,8,9,12,89] [6,8,912] [] ⟨(0,c),π _,Q⟩ (λ⟨(j,_),_⟩=>l.length-j) (λ⟨(j,_),_⟩=>[(90,J j)]) (λ⟨(_,c),_⟩=>[(909,some (.box (bX c)))]) ?_ ?_
  .exact⟨⟨rfl,rfl⟩,bt,bt⟩
  .rintro⟨⟨j,c⟩,S,H⟩;conv=>whnf
   dsimp only at S H;by_cases g:(j:Int)<l.length
   .have b:j<l.length:=Z;obtain⟨o,u⟩:∃o,o=l.getD j 0:=⟨_,rfl⟩;have E:l.getD (j:Int).toNat 0=o:=by rw[u];rfl
    have s:ah o:=by
     have:=B.2 o (by rw[u];exact a8 b);unfold ah;omega
    have N:bx 106 [n.av,aB d,J i,J (1:Nat),J (l.getD (j:Int).toNat 0)] (ay (bu n d i 1 o)):=by
     rw[E];exact m9 n d h F m i 1 f Z o s
    rw[tp b,<-u]at H;rcases hc:bu n d i 1 o with e|y
    .have v:=mI h F m f Z hc;rw[oL (ch:=[a]) (by rw[show([a]:List Int).length=0+1 from rfl,uU,Ii hc])]at H;have H:l6 n d i D 0 [a] z [] l (j+1) c=X:=H;rw[hc]at N;repeat'(first|(refine U g λhb=>?_;conv=>whnf)|(exact aH [] ⟨(j+1,c),b,H⟩)|refine' ag|fail)
     all_goals try first|exact bs|(exfalso;omega)|exact absurd ‹_› v
    .have K:=dN h F m f Z hc;rw[hc]at N;have p8:=tn;have O:=GW z y L K;rcases hp:c7 z y with e|p
     .obtain rfl:=mF (nA hp);rw[oL (ch:=[a]) (by rw[show([a]:List Int).length=0+1 from rfl,uU,show((0:Nat)==0)=true from rfl,Fs hc];dsimp only;rw[hp])]at H;have H:l6 n d i D 0 [a] z [] l (j+1) c=X:=H;rw[hp]at O;repeat'(first|(refine U g λhb=>?_;conv=>whnf)|(exact aH [] ⟨(j+1,c),b,H⟩)|refine' ag|fail)
      all_goals try exact ez
     .have I:ar p.res:=(dq L K (mE hp).1).1;have po:=Hg I;have p7:=qX [a] (φ:1<=1/\1<=17592186044416);rw[uV (ch:=[a]) (y:=p.res) (qs:=[p]) (by rw[show([a]:List Int).length=0+1 from rfl,uU,show((0:Nat)==0)=true from rfl,Fs hc];dsimp only;rw[hp];rfl)]at H;rw[hp]at O;have p5:fl 71 ([.lptr 912 0]++.isl 2 1 (λi=>bif Nat.beq i 0 then[J a]else[J (l.getD (j:Int).toNat 0)])::[p.res.av,.isl 1 5 λ_=>Spl.cells p]) [(912,.box (fI n d i)),(909,.box (bX c))] (.tup []) [(912,.box (fI n d i)),(909,.box (bX (fk n d i D 0 [a,o] p.res [p] c)))]:=by
       rw[E];exact Ft (t o p.res p I s) c
      repeat'(first|(refine U g λhb=>?_;conv=>whnf)|(exact aH [] ⟨(j+1,fk n d i D 0 [a,o] p.res [p] c),b,H⟩)|(refine au [0,1,3,6,8,9,12,14,89,90] [6,8,912,909] [] [(15,.lptr 15 0),(17,.osl 149 1)] [(15,some (.box p.res.cells)),(149,some (.arr 1 5 (λ_=>Spl.cells p) 138))] ⟨⟨rfl,rfl⟩,?_,?_⟩ ?_;(solve|((refine' b9)<;>first|exact cy rfl (λi f=>(by obtain rfl:i=0:=Z;rfl))|exact bt));(solve|((refine' b9)<;>first|exact cy rfl (λi f=>(by obtain rfl:i=0:=Z;rfl))|exact bt));(conv=>whnf);(refine az 149 rfl rfl (λ_ _=>rfl) ?_ ?_ ?_;(solve|try refine' b8);(solve|try refine' b8));(conv=>whnf))|refine' ag|(refine dF p7 rfl ?_;conv=>whnf)|(refine nG [.lptr 912 0] [p.res.av,.isl 1 5 λ_=>Spl.cells p] p5 rfl rfl rfl ⟨rfl,rfl,trivial⟩ ⟨trivial,trivial,trivial,trivial⟩ (ξ _) (λi f=>(by rcases(Z:i=0\/i=1)with rfl|rfl<;>rfl)) (λi f=>(by rcases(Z:i=0\/i=1)with rfl|rfl<;>rfl)) ?_;conv=>whnf))
      all_goals try first|exact bs|(exfalso;omega)|exact⟨ξ _,aL Z rfl⟩
   .obtain rfl:j=l.length:=Z;rw[xq]at H;repeat'(first|(refine M g λhb=>?_;conv=>whnf)|refine' ag|fail)
    all_goals try exact ez
    exact aJ ⟨c,rfl,⟨rfl,rfl,trivial⟩,H⟩
end Go.Nc