/- Parts. -/
import Derived.Test.YtbdkgpcdkalfdaaGreatNcSXA
import Derived.Test.YtbdkgpcdkalfdaaGreatNcCXA
namespace Go.Nc
open Go.Proofs.Tryz
open Go.Proofs
theorem AS{c d:Curve}(hc:Gd c)(hd:Gd d){θ:Int}{z:Curve}(h:gB c d θ=.ok z):NrmC z:=by
 unfold gB at h;rw[dif_pos ⟨hc,hd⟩]at h;have h1:=(Classical.choose_spec (ij c d hc hd θ)).1;rw[h]at h1;have h2:=h1 hc hd;split at h2
 ·obtain⟨a,b,_,_,h3⟩:=h2;split at h3
  ·exact(fS h3 λs t hst=>i7 hst).1
  ·cases h3
 ·cases h2
theorem vH{n:Net}{d:List (List Int)}(h:NetOk n)(hw:NamesOk n)(hd:ShapeOk n d){i k:Nat}(hi:i<n.flows.length)(hk:k<(n.flows.getD i default).route.length){θ:Int}{z:Curve}(hz:qf n d i k θ=.ok z):NrmC z:=by
 have hfo:FlowOk n.lines (n.flows.getD i default):=h.flow _ (by simp[hi]);have h1:=hfo.lines _ (a8 (l:=(n.flows.getD i default).route) (i:=k) hk);have h2:=hfo.cls2 _ (a8 (l:=(n.flows.getD i default).route) (i:=k) hk);have h0:=hfo.cls;unfold qf at hz;rcases ho:dE n d i ((n.flows.getD i default).route.getD k 0) (n.flows.getD i default).class_ with e|o
 ·rw[ho]at hz;cases hz
 ·rw[ho]at hz;have go:=mn h hw hd hi hk ho;dsimp only at hz;rcases hb:offX n d ((n.flows.getD i default).route.getD k 0) (n.flows.getD i default).class_.toNat with e|b
  ·rw[hb]at hz;cases hz
  ·rw[hb]at hz;exact AS (xF h hw hd h1 ω hb) go hz
theorem mQ{n:Net}{d:List (List Int)}(h:NetOk n)(hw:NamesOk n)(hd:ShapeOk n d){i k:Nat}(hi:i<n.flows.length)(hk:k<(n.flows.getD i default).route.length){c:Int}{z:Curve}(hz:bN n d i k c=.ok z):aE z:=by
 unfold bN at hz;split at hz
 ·cases hz
 ·split at hz
  ·exact .inl (vH h hw hd hi hk hz)
  ·split at hz
   ·cases hz
   ·unfold Dg at hz;split at hz
    ·cases hz;exact .inr ⟨_,ω,rfl⟩
    ·cases hz
def rx:Curve->List Curve->List Spl->Prop
 |_,[],[]=>True
 |a,b::r,p::ps=>CertL a b p.res p.fr p.at_/\rx p.res r ps
 |_,_,_=>False
def lastC(a:Curve)(ps:List Spl):Curve:=(ps.map (·.res)).getLastD a
theorem rx.len:∀{l:List Curve} {a:Curve} {ps:List Spl},rx a l ps->ps.length=l.length
 |[],a,[],_=>rfl
 |b::r,a,p::ps,h=>by
  have:=rx.len h.2;simp[this]
 |[],a,_::_,h=>h.elim
 |_::_,a,[],h=>h.elim
theorem HU{G:Nat->Int}{e:Int}(h:canC G=.error e):e=3:=by
 unfold canC at h;by_cases g:∃x,CanQ G x
 ·rw[dif_pos g]at h;have hq:=Classical.choose_spec g;rw[h]at hq;exact hq.1
 ·rw[dif_neg g]at h;cases h;rfl
theorem xJ{c:Curve}(h:aE c){m:Int}{e:Int}(he:hopX c m=.error e):e=3:=by
 rcases h with h|⟨k,hk,rfl⟩
 ·rw[vD h]at he;exact HU he
 ·rw[Dt]at he;split at he<;>cases he;rfl
theorem FN{c:Curve}(h:aE c):q0d 101 [c.av] c.av:=by
 have hl:=h.len;have p:=hZ c.vals ω;refine opG func101 ntmps101 results101 λ_ _ _=>?_;repeat'(first|refine' ak|refine ab p ?_)
 all_goals first|exact Ψ|omega
def jJ:Except Int Dev->Except Int Int
 |.error e=>.error e
 |.ok x=>if x.1=true\/2000<x.2.1 then .error 5 else .ok x.2.1
structure DelF(a:Curve)(D:Curve->Except Int Dev):Prop where
 spec:∀z,aE z->q0d 63 [a.av,z.av] (dvR (D z))
 err:∀z e,aE z->D z=.error e->e≠0
theorem ry(v w:Int):jJ (.ok (true,v,w))=.error 5:=by
 show(if(true=true\/2000<v)then Except.error 5 else Except.ok v)=_;rw[if_pos (Or.inl rfl)]
structure DelX(a:Curve)(D:Curve->Except Int Dev):Prop where
 nrm:∀z,NrmC z->DelS a z (D z)
 wait:∀k,k<=398->DevE (cutF a k) (λt=>(a7 k).at t) (D (a7 k))
theorem DelX.err{a:Curve}{D:Curve->Except Int Dev}(h:DelX a D){z:Curve}{e:Int}(hz:aE z)(he:D z=.error e):e=3:=by
 rcases hz with hz|⟨k,hk,rfl⟩
 ·obtain⟨_,_,_,_,h3⟩:=h.nrm z hz;split at h3
  ·rw[he]at h3;exact h3.elim
  ·rw[he]at h3;cases h3;rfl
 ·have:=h.wait k hk;rw[he]at this;exact this.elim
theorem AT{x y:Except Int Dev}(h:dvN x=dvN y):jJ x=jJ y:=by
 rcases x with e|⟨i,v,w⟩<;>rcases y with f|⟨j,v',w'⟩
 ·cases h;rfl
 ·cases h
 ·cases h
 ·rcases i with _|_<;>rcases j with _|_
  ·cases h;rfl
  ·cases h
  ·cases h
  ·rw[ry,ry]
theorem FO{j k:Nat}(h:a7 j=a7 k):j=k:=by
 have h:(a7 j).vals.length=(a7 k).vals.length:=by rw[h]
 rw[cd,cd]at h;omega
theorem AU{a:Curve}{S:Curve->Except Int Dev->Prop}(h1:∀z,NrmC z->∃x,DelS a z x/\S z x)(h2:∀k,k<=398->∃x,DevE (cutF a k) (λt=>(a7 k).at t) x/\S (a7 k) x):∃D,DelX a D/\∀z,aE z->S z (D z):=by
 have h:∀z,∃x,aE z->(NrmC z->DelS a z x)/\(∀k,k<=398->z=a7 k->DevE (cutF a k) (λt=>(a7 k).at t) x)/\S z x:=λz=>by
  by_cases hn:NrmC z
  ·obtain⟨x,p,q⟩:=h1 z hn;exact⟨x,λ_=>⟨λ_=>p,λk hk e=>absurd (e▸hn) (c6 k),q⟩⟩
  ·by_cases hw:∃k,k<=398/\z=a7 k
   ·obtain⟨k,hk,rfl⟩:=hw;obtain⟨x,p,q⟩:=h2 k hk;exact⟨x,λ_=>⟨λh=>absurd h hn,λj hj e=>by cases FO e;exact p,q⟩⟩
   ·exact⟨.error 0,λhk=>absurd hk (λh=>h.elim hn hw)⟩
 refine⟨λz=>Classical.choose (h z),⟨λz hz=>(Classical.choose_spec (h z) (.inl hz)).1 hz,λk hk=>(Classical.choose_spec (h (a7 k)) (.inr ⟨k,hk,rfl⟩)).2.1 k hk rfl⟩,λz hz=>(Classical.choose_spec (h z) hz).2.2⟩
theorem HV(a:Curve)(ha:Gd a):∃D,DelF a D/\DelX a D:=by
 obtain ⟨D,h1,h2⟩:=AU (a:=a) (S:=fun z x=>q0d 63 [a.av,z.av] (dvR x)) (fun z hz=>by
  obtain⟨x,hx,p⟩:=sL a z;exact ⟨x,jR hx ha hz.gd,p⟩) (fun k hk=>by
  obtain⟨x,hx,p⟩:=AI a ha k hk;exact⟨x,hx,p⟩)
 exact⟨D,⟨h2,λz e hz he=>by rw[h1.err hz he];decide⟩,h1⟩
theorem G4{f g:Nat->Int}(hg:∀s t:Nat,s<=t->g s<=g t){x:Except Int Dev}(hx:DevE f g x){v:Nat}(hv:HDev f g v):dvN x=.ok (some (v:Int)):=by
 have hy:DevE f g (.ok (false,(v:Int),0)):=⟨λh=>(by cases h),λ_=>⟨κ,hv⟩⟩;obtain⟨⟨i,w,u⟩,_,e1,e2,e3,e4⟩:=hx.same hg hy;cases e2;dsimp only at e3 e4;subst e3;rw[e1,e4 rfl];rfl
end Go.Nc