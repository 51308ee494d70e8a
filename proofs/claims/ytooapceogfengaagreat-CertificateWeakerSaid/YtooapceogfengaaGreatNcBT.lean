/- Parts. -/
import Derived.Test.YtooapceogfengaaGreatNcS
namespace Go.Nc
open Go.Proofs.Tryz
open Go.Proofs
set_option maxHeartbeats 8000000
theorem qx{G:Prop}(g:G)(_:g=g):G:=g
theorem xE{G:Prop}(g:G)(_:g=g):G:=g
theorem aj{p:Prop}(h:p:=by
 first
 |((first|(refine gv ?_;conv=>whnf)|(refine aa (λhb=>?_) (λhb=>?_)<;>conv=>whnf)|(refine ak (λhb=>?_) (λhb=>?_)<;>conv=>whnf)|(refine ba ⟨?_,trivial⟩;conv=>whnf)|(refine Side.mk ?_ ?_;rotate_left;conv=>whnf)|(refine SubS.mk ?_ ?_;rotate_left;conv=>whnf)|(refine VCells.mk ⟨_,rfl,?_⟩;conv=>whnf)|(refine DrawOk.mk ⟨rfl,rfl⟩ ?_;conv=>whnf)|fail);all_goals(rcases qx _ rfl with hq;exact hq))
 |fail):p:=h
theorem fX{p:Prop}(h:p:=by
 first
 |((first|(refine gv ?_;conv=>whnf)|(refine aa (λhb=>?_) (λhb=>?_)<;>conv=>whnf)|(refine ak (λhb=>?_) (λhb=>?_)<;>conv=>whnf)|(refine wg ?_ ?_;conv=>whnf)|(refine Side.mk ?_ ?_;rotate_left;conv=>whnf)|(refine SubS.mk ?_ ?_;rotate_left;conv=>whnf)|(refine VCells.mk ⟨_,rfl,?_⟩;conv=>whnf)|(refine DrawOk.mk ⟨rfl,rfl⟩ ?_;conv=>whnf)|fail);all_goals(rcases qx _ rfl with hq;exact hq))
 |fail):p:=h
theorem gO{p:Prop}(h:p:=by
 first
 |((first|(refine gv ?_;conv=>whnf)|(refine aa (λhb=>?_) (λhb=>?_)<;>conv=>whnf)|(refine ak (λhb=>?_) (λhb=>?_)<;>conv=>whnf)|(refine Side.mk ?_ ?_;rotate_left;conv=>whnf)|(refine SubS.mk ?_ ?_;rotate_left;conv=>whnf)|(refine VCells.mk ⟨_,rfl,?_⟩;conv=>whnf)|(refine DrawOk.mk ⟨rfl,rfl⟩ ?_;conv=>whnf)|fail);all_goals(rcases qx _ rfl with hq;exact hq))
 |fail):p:=h
section
variable {P:Program}
theorem ab{f:FuncId}{vs:List AV}{o:Xd}{k:List Nat->AV->Xb->Prop}{r:AV}{q:Prop}(h:CallSpec P f vs [] r [])(g:q)(e:q->k [] r []:=by intro q;(conv=>whnf);exact q):vCall P f vs o k:=ar h (e g)
theorem bT{f:FuncId}{vs:List AV}{o:Xd}{k:List Nat->AV->Xb->Prop}{r:AV}{id:Nat}{a b:LObj}{q:Prop}(h:CallSpec P f vs [(id,a)] r [(id,b)])(g:q)(hin:o id=some a:=by rfl)(e:q->k [id,id] r [(id,some b)]:=by intro q;(conv=>whnf);exact q):vCall P f vs o k:=ii h hin (e g)
end
theorem subB{p:Prop}(h:p:=by
 (repeat1' (first|(refine Ξ ?_;first|omega|(dsimp only;omega)|rfl)|exact Ψ|exact q0a|exact True.intro|rfl|exactλ_ _=>rfl|refine And.intro ?_ ?_))
 all_goals(rcases xE _ rfl with hq;exact hq)):p:=h
theorem frzZ{p:Prop}(h:p:=by
 (repeat1' (first|exact True.intro|exact ξ _|exact⟨ξ _,rfl⟩|refine And.intro ?_ ?_|refineλ_ _=>?_))
 all_goals(rcases xE _ rfl with hq;exact hq)):p:=h
theorem frzQ{p:Prop}(h:p:=by
 first|((repeat'(first|exact True.intro|refine And.intro ?_ ?_))<;>first|exact ξ _|exactλi hi=>⟨trivial,trivial⟩|exact aK (by repeat'(first|exact True.intro|exact ξ _|refine And.intro ?_ ?_)))|fail):p:=h
theorem ariA{p:Prop}(h:p:=by first|omega|(unfold ah;omega)):p:=h
theorem υ{p:Prop}(h:p:=by unfold ah;omega):p:=h
theorem ariB{p:Prop}(h:p:=by first|omega|(unfold ah;omega)|(exfalso;omega)):p:=h
theorem opG{f:FuncId}{fn:Func}{c:Code}{nt:Nat}{rs:List ResultVar}{args:List AV}{ins outs:Xc}{r:AV}(hf:prog.funcs[f]? =some fn)(hnt:fn.ntmps=nt)(hrs:fn.results=rs.toArray)
  (h:∀(w0:World0) (Im0:Nat->Prop) (ρ0:Loc),GoodS prog ⟨w0,Im0,ins.map (·.1),ρ0,nt⟩ c ⟨kA 0 args,aS ins⟩ (Fin T ⟨w0,Im0,ins.map (·.1),ρ0,nt⟩ rs r outs))
  (hb : fn.body=some c := by exact rfl) (hname : (fn.name== "runtime.NumGoroutine")=false := by kernel_rfl) (hlen : args.length≤nt := by simp)
  (hcl:(ins.all λp=>p.2.live)=true/\nmL (ins.map (·.1)) args=true/\nmV (outs.map (·.1)) r=true/\(∀p∈ins,obCl (ins.map (·.1)) p.2)/\(∀p∈outs,obCl (outs.map (·.1)) p.2)/\(ins.all λp=>(outs.map (·.1)).elem p.1)=true:=by exact⟨rfl,rfl,rfl,by simp,by simp,rfl⟩) :
  q0c f args ins r outs:=aM aB c nt rs hf hb hname hnt (by rw[hrs]) hlen hcl h
def runs(last:Int):List Int->Option Int
 |[]=>some last
 |v::r=>if v<last\/(v>1073741824/\v≠inf)then none else runs v r
def Curve.valid(f:Curve):Bool :=
 if(f.vals.length:Int)<1\/(f.vals.length:Int)>400\/f.per<1\/f.per>120\/f.per>f.vals.length\/f.inc<0\/f.inc>1073741824 then false
 else match runs 0 f.vals with
  |none=>false
  |some last=>if last=inf then decide (f.per=1)&&decide (f.inc=0)else decide (last<=f.vals.getD (f.vals.length-f.per).toNat 0+f.inc)
theorem nN{l:List Int}{j:Nat}{a r:Int}(hj:j<l.length)(h:runs r l=runs a (l.drop j)) :
  runs r l=if l.getD j 0<a\/(l.getD j 0>1073741824/\l.getD j 0≠inf)then none else runs (l.getD j 0) (l.drop (j+1)):=by
 rw[h,List.drop_eq_getElem_cons hj];simp[runs,hj]
theorem lQ:∀{l:List Int} {a r:Int},runs a l=some r->a<=r/\∀v∈l,a<=v/\v<=inf
 |[],a,r,h=>by simp only[runs,Option.some.injEq]at h;subst h;simp
 |v::l,a,r,h=>by
  simp only[runs]at h;split at h
  ·cases h
  ·obtain⟨h1,h2⟩:=lQ h;unfold inf at *;refine⟨ω,λu hu=>?_⟩;rcases List.mem_cons.1 hu with rfl|hu
   ·omega
   ·have:=h2 u hu;omega
theorem a8{l:List Int}{i:Nat}(h:i<l.length):l.getD i 0∈l:=by
 simp[h]
theorem dF(f:Curve):q0d 97 [f.av] (.bool f.valid):=by
 refine opG func97 ntmps97 results97 λw0 Im0 ρ0=>?_;repeat'(first|refine' aj|fail)
 all_goals try(refine Θ ?_;simp[Curve.valid,fW, *];done)
 refine aD (ι:={p:Nat×Int//p.1<=f.vals.length/\runs 0 f.vals=runs p.2 (f.vals.drop p.1)}) [1,3,43,44] [1] [] ⟨(0,0),by simp,rfl⟩ (λp=>f.vals.length-p.1.1) (λp=>[(4,J p.1.2),(45,J p.1.1)]) (λ_=>[]) ?_ ?_
 ·refine⟨⟨rfl,rfl⟩,?_,?_⟩;all_goals try refine' subB
 ·intro p;conv=>whnf
  have hj:=p.2.1;have hr:=p.2.2;repeat'(first|refine' aj|(refine aE [] ⟨(p.1.1+1,f.vals.getD p.1.1 0),?_,?_⟩ ⟨⟨rfl,rfl⟩,?_,?_⟩ ?_))
  all_goals try(unfold ah;omega)
  all_goals try(exact⟨ω,ω⟩)
  all_goals try(show AvLe _ _;refine Θ ?_;have hs:=nN (ω:p.1.1<f.vals.length) hr;simp only[χ]at *;rw[if_pos (by unfold inf;omega)]at hs;simp[Curve.valid,fW,hs];done)
  all_goals try(show runs _ _=runs _ _;simp only[χ]at *;exact(nN ω hr).trans (if_neg (by unfold inf;omega)))
  all_goals try(show(_:Nat)<=_;dsimp only;omega)
  all_goals try(show(_:Nat)<_;dsimp only;omega)
  all_goals try(show AvLe _ _;refine Θ ?_;rw[List.drop_eq_nil_of_le ω]at hr;simp[Curve.valid,fW,runs,inf, *];done)
  all_goals try(rw[List.drop_eq_nil_of_le ω]at hr;have hq:=(lQ hr).2 _ (a8 (i:=((f.vals.length:Int)-f.per).toNat) ω);unfold inf at hq;unfold ah;omega)
  all_goals try refine' subB
def Rd.raw(s:Rd):Int×Rd:=if(s.l.length:Int)<=s.pos then(0,s)else(s.l.getD s.pos 0,⟨s.l,s.pos+1⟩)
def Rd.ok(s:Rd):Prop:=s.pos<=2000/\s.l.length<=2000
theorem Rd.raw_ok{s:Rd}(h:s.ok):s.raw.2.ok:=by
 unfold Rd.raw Rd.ok at *;split
 ·exact h
 ·exact⟨κ,h.2⟩
def mod(x n:Int):Int:=if n<1 then 0 else if x.tmod n<0 then x.tmod n+n else x.tmod n
theorem mod_lt{x n:Int}(h:0<n):0<=mod x n/\mod x n<n:=by
 have h1:=Int.tmod_lt_of_pos x h;have h2:=Int.lt_tmod_of_pos x h;unfold mod;split
 ·omega
 ·split<;>omega
theorem xF(x n:Int)(hn:ah n):q0d 39 [J x,J n] (J (mod x n)):=by
 refine opG func39 ntmps39 results39 λw0 Im0 ρ0=>?_;repeat'(first|refine' aj|fail)
 all_goals try(refine Θ ?_;simp[mod,fW, *];done)
 all_goals unfold ah at *
 all_goals try omega
 have h1:=Int.tmod_lt_of_pos x (ω:0<n);have h2:=Int.lt_tmod_of_pos x (ω:0<n);omega
theorem El(s:Rd)(hs:s.ok):q0c 58 [.lptr 900 0] [(900,s.ob)] (J s.raw.1) [(900,s.raw.2.ob)]:=by
 have hs1:=hs.1;refine aM aB _ 31 [.tmp 2] func58 rfl (by kernel_rfl) ntmps58 (by rw[results58]) η ⟨rfl,rfl,rfl,bD rfl,bD rfl,rfl⟩ λw0 Im0 ρ0=>?_;repeat'(first|refine' fX|fail)
 all_goals try(unfold ah;omega)
 all_goals try omega
 ·rw[show s.raw=(0,s)from if_pos ‹_›];exact Ψ
 ·rw[show s.raw=(0,s)from if_pos ‹_›];rfl
 ·rw[show s.raw=_ from if_neg ‹_›];refine Θ ?_;simp[fW]
 ·rw[show s.raw=_ from if_neg ‹_›];rfl
def Rd.n(k:Int)(s:Rd):Int×Rd:=(mod s.raw.1 k,s.raw.2)
theorem Rd.n_ok{s:Rd}(k:Int)(h:s.ok):(s.n k).2.ok:=s.raw_ok h
theorem mK(s:Rd)(hs:s.ok)(k:Int)(hk:ah k):q0c 36 [.lptr 900 0,J k] [(900,s.ob)] (J (s.n k).1) [(900,(s.n k).2.ob)]:=by
 refine aM aB _ 9 [.tmp 4] func36 rfl (by kernel_rfl) ntmps36 (by rw[results36]) η ⟨rfl,rfl,rfl,bD rfl,bD rfl,rfl⟩ λw0 Im0 ρ0=>?_;repeat'(first|refine' fX|refine bT (El s hs) ?_|refine ab (xF _ _ hk) ?_)
 ·exact Ψ
 ·rfl
def Rd.pick(l:List Int)(s:Rd):Int×Rd:=(l.getD (s.n l.length).1.toNat 0,(s.n l.length).2)
theorem tS(s:Rd)(hs:s.ok)(l:List Int)(hl:0<l.length)(hl2:l.length<=2000):q0c 38 [.lptr 900 0,ints l] [(900,s.ob)] (J (s.pick l).1) [(900,(s.pick l).2.ob)]:=by
 have hm:=mod_lt (x:=s.raw.1) (n:=l.length) ω;refine aM aB _ 12 [.tmp 4] func38 rfl (by kernel_rfl) ntmps38 (by rw[results38]) η ⟨rfl,rfl,rfl,bD rfl,bD rfl,rfl⟩ λw0 Im0 ρ0=>?_;repeat'(first|refine' fX|(refine bT (mK s hs l.length (by unfold ah;omega)) ?_))
 ·exact Ψ
 ·rfl
 ·exact hm
def Rd.range(lo hi:Int)(s:Rd):Int×Rd:=(lo+(s.n (hi-lo+1)).1,(s.n (hi-lo+1)).2)
theorem fA(s:Rd)(hs:s.ok)(lo hi:Int)(h1:-1000000<=lo)(h2:lo<=hi)(h3:hi<=1000000):q0c 18 [.lptr 900 0,J lo,J hi] [(900,s.ob)] (J (s.range lo hi).1) [(900,(s.range lo hi).2.ob)]:=by
 have hm:=mod_lt (x:=s.raw.1) (n:=hi-lo+1) ω;refine aM aB _ 15 [.tmp 6] func18 rfl (by kernel_rfl) ntmps18 (by rw[results18]) η ⟨rfl,rfl,rfl,bD rfl,bD rfl,rfl⟩ λw0 Im0 ρ0=>?_;repeat'(first|refine' fX|(refine bT (mK s hs (hi-lo+1) (by unfold ah;omega)) ?_))
 ·exact Ψ
 ·rfl
 ·unfold ah;show _<=lo+mod _ _/\lo+mod _ _<=_;omega
 ·unfold ah;omega
 ·unfold ah;omega
def Rd.new(l:List Int):Rd:=⟨l.take 2000,0⟩
theorem new_ok(l:List Int):(Rd.new l).ok:=⟨by simp[Rd.new],by simp[Rd.new];omega⟩
theorem xG(l:List Int):q0c 6 [ints l] [] (.lptr 900 0) [(900,(Rd.new l).ob)]:=by
 refine aM aB _ 10 [.tmp 2] func6 rfl (by kernel_rfl) ntmps6 (by rw[results6]) η ⟨rfl,rfl,rfl,by simp,bD rfl,rfl⟩ λw0 Im0 ρ0=>?_;repeat'(first|(refine gv ?_;conv=>whnf)|(refine Side.mk ?_ ?_;rotate_left;conv=>whnf)|(refine SubS.mk ?_ ?_;rotate_left;conv=>whnf))
 ·refine⟨⟨[(2,.lptr 900 0)],[(900,some (Rd.new l).ob)]⟩,fF [(900,9)] ⟨⟨rfl,rfl⟩,⟨⟨rfl,?_⟩,trivial⟩,⟨rfl,Ψ⟩,trivial⟩,Ψ,rfl,trivial⟩;refine ObLe.box (.cons (Γ ?_ λi hi=>?_) (.cons Ψ .nil))
  ·simp[Rd.new];omega
  ·have:i<2000:=ω;simp[Rd.new,this]
 ·omega
end Go.Nc