/- Parts. -/
import Derived.Test.YtbdkgpcdkalfdaaGreatNdS
namespace Go.Nc
open Go.Proofs.Tryz
open Go.Proofs
set_option maxHeartbeats 8000000
theorem rM{G:Prop}(g:G)(_:g=g):G:=g
theorem yV{G:Prop}(g:G)(_:g=g):G:=g
section
variable {P:Program}
theorem ab{f:FuncId}{v:List AV}{o:Xd}{k:List Nat->AV->Xb->Prop}{r:AV}{q:Prop}(h:CallSpec P f v [] r [])(g:q)(e:q->k [] r []:=by intro q;(conv=>whnf);exact q):vCall P f v o k:=am h (e g)
theorem bT{f:FuncId}{v:List AV}{o:Xd}{k:List Nat->AV->Xb->Prop}{r:AV}{id:Nat}{a b:LObj}{q:Prop}(h:CallSpec P f v [(id,a)] r [(id,b)])(g:q)(H:o id=some a:=by rfl)(e:q->k [id,id] r [(id,some b)]:=by intro q;(conv=>whnf);exact q):vCall P f v o k:=iE h H (e g)
end
theorem ak{p:Prop}(h:p:=by
 first
 |((first|(refine gv ?_;conv=>whnf)|(refine aa (λhb=>?_) (λhb=>?_)<;>conv=>whnf)|(refine aq (λhb=>?_) (λhb=>?_)<;>conv=>whnf)|(refine bu ⟨?_,trivial⟩;conv=>whnf)|(refine Side.mk ?_ ?_;rotate_left;conv=>whnf)|(refine SubS.mk ?_ ?_;rotate_left;conv=>whnf)|(refine VCells.mk ⟨_,rfl,?_⟩;conv=>whnf)|(refine DrawOk.mk ⟨rfl,rfl⟩ ?_;conv=>whnf)|refine ab (by assumption) ?_|fail);all_goals(rcases rM _ rfl with hq;exact hq))
 |fail):p:=h
theorem gg{p:Prop}(h:p:=by
 first
 |((first|(refine gv ?_;conv=>whnf)|(refine aa (λhb=>?_) (λhb=>?_)<;>conv=>whnf)|(refine aq (λhb=>?_) (λhb=>?_)<;>conv=>whnf)|(refine xt ?_ ?_;conv=>whnf)|(refine Side.mk ?_ ?_;rotate_left;conv=>whnf)|(refine SubS.mk ?_ ?_;rotate_left;conv=>whnf)|(refine VCells.mk ⟨_,rfl,?_⟩;conv=>whnf)|(refine DrawOk.mk ⟨rfl,rfl⟩ ?_;conv=>whnf)|fail);all_goals(rcases rM _ rfl with hq;exact hq))
 |fail):p:=h
theorem gi{p:Prop}(h:p:=by
 first
 |((first|(refine gv ?_;conv=>whnf)|(refine aa (λhb=>?_) (λhb=>?_)<;>conv=>whnf)|(refine aq (λhb=>?_) (λhb=>?_)<;>conv=>whnf)|(refine Side.mk ?_ ?_;rotate_left;conv=>whnf)|(refine SubS.mk ?_ ?_;rotate_left;conv=>whnf)|(refine VCells.mk ⟨_,rfl,?_⟩;conv=>whnf)|(refine DrawOk.mk ⟨rfl,rfl⟩ ?_;conv=>whnf)|fail);all_goals(rcases rM _ rfl with hq;exact hq))
 |fail):p:=h
theorem dw{p:Prop}(h:p:=by
 (repeat1' (first|(refine Γ ?_;first|omega|(dsimp only;omega)|rfl)|exact Θ|exact cy|exact True.intro|rfl|exactλ_ _=>rfl|refine And.intro ?_ ?_))
 all_goals(rcases yV _ rfl with hq;exact hq)):p:=h
theorem frzZ{p:Prop}(h:p:=by
 (repeat1' (first|exact True.intro|exact π _|exact⟨π _,rfl⟩|refine And.intro ?_ ?_|refineλ_ _=>?_))
 all_goals(rcases yV _ rfl with hq;exact hq)):p:=h
theorem KG{p:Prop}(h:p:=by
 first|((repeat'(first|exact True.intro|refine And.intro ?_ ?_))<;>first|exact π _|exactλi H=>⟨trivial,trivial⟩|exact aM (by repeat'(first|exact True.intro|exact π _|refine And.intro ?_ ?_)))|fail):p:=h
theorem bs{p:Prop}(h:p:=by first|omega|(unfold ah;omega)):p:=h
theorem ε{p:Prop}(h:p:=by unfold ah;omega):p:=h
theorem ariB{p:Prop}(h:p:=by first|omega|(unfold ah;omega)|(exfalso;omega)):p:=h
theorem ee{f:FuncId}{F:Func}{c:Code}{nt:Nat}{R:List ResultVar}{args:List AV}{i outs:Xc}{r:AV}(g:prog.funcs[f]? =some F)(d:F.ntmps=nt)(e:F.results=R.toArray)
  (h:∀(w:World0) (I:Nat->Prop) (b:Loc),GoodS prog ⟨w,I,i.map (·.1),b,nt⟩ c ⟨kZ 0 args,bg i⟩ (NJ T ⟨w,I,i.map (·.1),b,nt⟩ R r outs))
  (hb : F.body=some c := by exact rfl) (H : (F.name== "runtime.NumGoroutine")=false := by kernel_rfl) (a : args.length≤nt := by simp)
  (hcl:(i.all λp=>p.2.live)=true/\ka (i.map (·.1)) args=true/\gu (outs.map (·.1)) r=true/\(∀p∈i,eu (i.map (·.1)) p.2)/\(∀p∈outs,eu (outs.map (·.1)) p.2)/\(i.all λp=>(outs.map (·.1)).elem p.1)=true:=by exact⟨rfl,rfl,rfl,by simp,by simp,rfl⟩) :
  bx f args i r outs:=aS aE c nt R g hb H d (by rw[e]) a hcl h
theorem db{f:FuncId}{F:Func}{c:Code}{nt:Nat}{R:List ResultVar}{args:List AV}{i outs:Xc}{r:AV}(g:prog.funcs[f]? =some F)(d:F.ntmps=nt)(e:F.results=R.toArray)
  (hb : F.body=some c := by exact rfl) (H : (F.name== "runtime.NumGoroutine")=false := by kernel_rfl) (a : args.length≤nt := by simp)
  (hcl:(i.all λp=>p.2.live)=true/\ka (i.map (·.1)) args=true/\gu (outs.map (·.1)) r=true/\(∀p∈i,eu (i.map (·.1)) p.2)/\(∀p∈outs,eu (outs.map (·.1)) p.2)/\(i.all λp=>(outs.map (·.1)).elem p.1)=true:=by exact⟨rfl,rfl,rfl,by simp,by simp,rfl⟩)
  (h:∀(w:World0) (I:Nat->Prop) (b:Loc),GoodS prog ⟨w,I,i.map (·.1),b,nt⟩ c ⟨kZ 0 args,bg i⟩ (NJ T ⟨w,I,i.map (·.1),b,nt⟩ R r outs):=by
   intro _ _ _;repeat'(first|refine' ak|fail)
   all_goals(rcases rM _ rfl with hq;exact hq)):
 bx f args i r outs:=ee g d e h hb H a hcl
def fo(last:Int):List Int->Option Int
 |[]=>some last
 |v::r=>if v<last\/(v>1073741824/\v≠cx)then none else fo v r
def Curve.valid(f:Curve):Bool :=
 if(f.vals.length:Int)<1\/(f.vals.length:Int)>400\/f.per<1\/f.per>120\/f.per>f.vals.length\/f.inc<0\/f.inc>1073741824 then false
 else match fo 0 f.vals with
  |none=>false
  |some last=>if last=cx then decide (f.per=1)&&decide (f.inc=0)else decide (last<=f.vals.getD (f.vals.length-f.per).toNat 0+f.inc)
theorem oS{l:List Int}{j:Nat}{a r:Int}(H:j<l.length)(h:fo r l=fo a (l.drop j)) :
  fo r l=if l.getD j 0<a\/(l.getD j 0>1073741824/\l.getD j 0≠cx)then none else fo (l.getD j 0) (l.drop (j+1)):=by
 rw[h,List.drop_eq_getElem_cons H];simp[fo,H]
theorem mM:∀{l:List Int} {a r:Int},fo a l=some r->a<=r/\∀v∈l,a<=v/\v<=cx
 |[],a,r,h=>by simp only[fo,Option.some.injEq]at h;subst h;simp
 |v::l,a,r,h=>by
  simp only[fo]at h;split at h
  .cases h
  .obtain⟨c,b⟩:=mM h;unfold cx at *;refine⟨Z,λu H=>?_⟩;rcases List.mem_cons.1 H with rfl|H
   .omega
   .have:=b u H;omega
theorem a9{l:List Int}{i:Nat}(h:i<l.length):l.getD i 0∈l:=by
 simp[h]
theorem dX(f:Curve):q0e 158 [f.av] (.bool f.valid):=by
 refine ee func158 ntmps158 results158 λw I a=>?_;repeat'(first|refine' ak|fail)
 all_goals try(refine Ξ ?_;simp[Curve.valid,gJ, *];done)
 refine aG (ι:={p:Nat×Int//p.1<=f.vals.length/\fo 0 f.vals=fo p.2 (f.vals.drop p.1)}) [1,3,43,44] [1] [] ⟨(0,0),by simp,rfl⟩ (λp=>f.vals.length-p.1.1) (λp=>[(4,J p.1.2),(45,J p.1.1)]) (λ_=>[]) ?_ ?_
 .refine⟨⟨rfl,rfl⟩,?_,?_⟩;all_goals try refine' dw
 .intro p;conv=>whnf
  have b:=p.2.1;have h:=p.2.2;repeat'(first|refine' ak|(refine aH [] ⟨(p.1.1+1,f.vals.getD p.1.1 0),?_,?_⟩ ⟨⟨rfl,rfl⟩,?_,?_⟩ ?_))
  all_goals try(unfold ah;omega)
  all_goals try(exact⟨Z,Z⟩)
  all_goals try(show AvLe _ _;refine Ξ ?_;have H:=oS (Z:p.1.1<f.vals.length) h;simp only[β]at *;rw[if_pos (by unfold cx;omega)]at H;simp[Curve.valid,gJ,H];done)
  all_goals try(show fo _ _=fo _ _;simp only[β]at *;exact(oS Z h).trans (if_neg (by unfold cx;omega)))
  all_goals try(show(_:Nat)<=_;dsimp only;omega)
  all_goals try(show(_:Nat)<_;dsimp only;omega)
  all_goals try(show AvLe _ _;refine Ξ ?_;rw[List.drop_eq_nil_of_le Z]at h;simp[Curve.valid,gJ,fo,cx, *];done)
  all_goals try(rw[List.drop_eq_nil_of_le Z]at h;have hq:=(mM h).2 _ (a9 (i:=((f.vals.length:Int)-f.per).toNat) Z);unfold cx at hq;unfold ah;omega)
  all_goals try refine' dw
def Rd.raw(s:Rd):Int×Rd:=if(s.l.length:Int)<=s.pos then(0,s)else(s.l.getD s.pos 0,⟨s.l,s.pos+1⟩)
def Rd.ok(s:Rd):Prop:=s.pos<=2000/\s.l.length<=2000
theorem Rd.raw_ok{s:Rd}(h:s.ok):s.raw.2.ok:=by
 unfold Rd.raw Rd.ok at *;split
 .exact h
 .exact⟨κ,h.2⟩
def KF(x n:Int):Int:=if n<1 then 0 else if x.tmod n<0 then x.tmod n+n else x.tmod n
theorem mod_lt{x n:Int}(h:0<n):0<=KF x n/\KF x n<n:=by
 have H:=Int.tmod_lt_of_pos x h;have a:=Int.lt_tmod_of_pos x h;unfold KF;split
 .omega
 .split<;>omega
theorem yW(x n:Int)(b:ah n):q0e 65 [J x,J n] (J (KF x n)):=by
 refine ee func65 ntmps65 results65 λw I a=>?_;repeat'(first|refine' ak|fail)
 all_goals try(refine Ξ ?_;simp[KF,gJ, *];done)
 all_goals unfold ah at *
 all_goals try omega
 have h:=Int.tmod_lt_of_pos x (Z:0<n);have H:=Int.lt_tmod_of_pos x (Z:0<n);omega
theorem F5(s:Rd)(h:s.ok):bx 66 [.lptr 900 0] [(900,s.ob)] (J s.raw.1) [(900,s.raw.2.ob)]:=by
 have H:=h.1;refine aS aE _ 31 [.tmp 2] func66 rfl (by kernel_rfl) ntmps66 (by rw[results66]) ν ⟨rfl,rfl,rfl,bN rfl,bN rfl,rfl⟩ λw I a=>?_;repeat'(first|refine' gg|fail)
 all_goals try(unfold ah;omega)
 all_goals try omega
 .rw[show s.raw=(0,s)from if_pos ‹_›];exact Θ
 .rw[show s.raw=(0,s)from if_pos ‹_›];rfl
 .rw[show s.raw=_ from if_neg ‹_›];refine Ξ ?_;simp[gJ]
 .rw[show s.raw=_ from if_neg ‹_›];rfl
def Rd.n(k:Int)(s:Rd):Int×Rd:=(KF s.raw.1 k,s.raw.2)
theorem Rd.n_ok{s:Rd}(k:Int)(h:s.ok):(s.n k).2.ok:=s.raw_ok h
theorem lm(s:Rd)(H:s.ok)(k:Int)(h:ah k):bx 27 [.lptr 900 0,J k] [(900,s.ob)] (J (s.n k).1) [(900,(s.n k).2.ob)]:=by
 refine aS aE _ 9 [.tmp 4] func27 rfl (by kernel_rfl) ntmps27 (by rw[results27]) ν ⟨rfl,rfl,rfl,bN rfl,bN rfl,rfl⟩ λw I a=>?_;repeat'(first|refine' gg|refine bT (F5 s H) ?_|refine ab (yW _ _ h) ?_)
 .exact Θ
 .rfl
def Rd.pick(l:List Int)(s:Rd):Int×Rd:=(l.getD (s.n l.length).1.toNat 0,(s.n l.length).2)
theorem vy(s:Rd)(a:s.ok)(l:List Int)(c:0<l.length)(h:l.length<=2000):bx 47 [.lptr 900 0,c4 l] [(900,s.ob)] (J (s.pick l).1) [(900,(s.pick l).2.ob)]:=by
 have H:=mod_lt (x:=s.raw.1) (n:=l.length) Z;refine aS aE _ 12 [.tmp 4] func47 rfl (by kernel_rfl) ntmps47 (by rw[results47]) ν ⟨rfl,rfl,rfl,bN rfl,bN rfl,rfl⟩ λw I b=>?_;repeat'(first|refine' gg|(refine bT (lm s a l.length (by unfold ah;omega)) ?_))
 .exact Θ
 .rfl
 .exact H
def Rd.range(lo h:Int)(s:Rd):Int×Rd:=(lo+(s.n (h-lo+1)).1,(s.n (h-lo+1)).2)
theorem fS(s:Rd)(H:s.ok)(lo h:Int)(b:-1000000<=lo)(c:lo<=h)(d:h<=1000000):bx 44 [.lptr 900 0,J lo,J h] [(900,s.ob)] (J (s.range lo h).1) [(900,(s.range lo h).2.ob)]:=by
 have e:=mod_lt (x:=s.raw.1) (n:=h-lo+1) Z;refine aS aE _ 15 [.tmp 6] func44 rfl (by kernel_rfl) ntmps44 (by rw[results44]) ν ⟨rfl,rfl,rfl,bN rfl,bN rfl,rfl⟩ λw I a=>?_;repeat'(first|refine' gg|(refine bT (lm s H (h-lo+1) (by unfold ah;omega)) ?_))
 .exact Θ
 .rfl
 .unfold ah;show _<=lo+KF _ _/\lo+KF _ _<=_;omega
 .unfold ah;omega
 .unfold ah;omega
def Rd.new(l:List Int):Rd:=⟨l.take 2000,0⟩
theorem M3(l:List Int):(Rd.new l).ok:=⟨by simp[Rd.new],by simp[Rd.new];omega⟩
theorem F6(l:List Int):bx 11 [c4 l] [] (.lptr 900 0) [(900,(Rd.new l).ob)]:=by
 refine aS aE _ 10 [.tmp 2] func11 rfl (by kernel_rfl) ntmps11 (by rw[results11]) ν ⟨rfl,rfl,rfl,by simp,bN rfl,rfl⟩ λw I a=>?_;repeat'(first|(refine gv ?_;conv=>whnf)|(refine Side.mk ?_ ?_;rotate_left;conv=>whnf)|(refine SubS.mk ?_ ?_;rotate_left;conv=>whnf))
 .refine⟨⟨[(2,.lptr 900 0)],[(900,some (Rd.new l).ob)]⟩,fW [(900,9)] ⟨⟨rfl,rfl⟩,⟨⟨rfl,?_⟩,trivial⟩,⟨rfl,Θ⟩,trivial⟩,Θ,rfl,trivial⟩;refine ObLe.box (.cons (kd ?_ λi h=>?_) (.cons Θ .nil))
  .simp[Rd.new];omega
  .have:i<2000:=Z;simp[Rd.new,this]
 .omega
end Go.Nc