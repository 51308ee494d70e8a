/- Parts. -/
import Derived.Test.YtooapceogfengaaGreatNcJC
namespace Go.Nc
open Go.Proofs
theorem Hd{f f' g g':Nat->Int}{v w:Nat}(h:HDev f g v)(h':HDev f' g' w)(hf:∀t,f t<=f' t)(hg:∀t,g' t<=g t)(hm:∀s t:Nat,s<=t->g s<=g t):v<=w:=by
 rcases h.2 with e|⟨t,s,e,h1⟩
 ·omega
 ·rcases ζ w v with g1|g1
  ·have a1:=hf t;have a2:=h'.1 t;have a3:=hg (t+w);have a4:=hm (t+w) s ω;omega
  ·exact g1
def Cs(d e:Xa):Prop:=∀i j:Nat,((d.getD i []).getD j 0<0/\(e.getD i []).getD j 0<0)\/(0<=(d.getD i []).getD j 0/\(d.getD i []).getD j 0<=(e.getD i []).getD j 0)
theorem uL{f g:Int->Int}(h:∀x,(f x<0/\g x<0)\/(0<=f x/\f x<=g x)):∀(l:List Int) (s s':Int),0<=s->s<=s'->
  (bF f l s=none/\bF g l s'=none)\/∃v w:Nat,bF f l s=some (v:Int)/\bF g l s'=some (w:Int)/\v<=w
 |[],s,s',h0,hs=>.inr ⟨s.toNat,s'.toNat,by unfold bF;congr 1;omega,by unfold bF;congr 1;omega,ω⟩
 |x::r,s,s',h0,hs=>by
  unfold bF;rcases h x with⟨h1,h2⟩|⟨h1,h2⟩
  ·rw[if_pos h1,if_pos h2];exact .inl ⟨rfl,rfl⟩
  ·rw[if_neg ω,if_neg ω];exact uL h r (s+f x) (s'+g x) ω ω
theorem LF_le{n:Net}(h:NetOk n){d e:Xa}(hle:Cs d e)(L:Int){j:Nat}(hj:j<n.flows.length)(t:Nat):LF n d L j t<=LF n e L j t:=by
 have hfo:FlowOk n.lines (n.flows.getD j default):=h.flow _ (by simp[hj]);have hm:=wu hfo.valid hfo.fin;unfold LF c7;rcases uL (f:=dAt d (n.flows.getD j default).class_) (g:=dAt e (n.flows.getD j default).class_) (λx=>hle x.toNat _) ((n.flows.getD j default).route.take (bu L (n.flows.getD j default).route 0).toNat) 0 0 (Int.le_refl 0) (Int.le_refl 0)with⟨h1,h2⟩|⟨v,w,h1,h2,h3⟩
 ·rw[h1,h2];exact Int.le_refl 0
 ·rw[h1,h2];dsimp only;split
  ·exact Int.le_refl 0
  ·exact hm _ _ ω
theorem Ct{f g:Int->Int}:∀{l:List Int},(∀x∈l,f x<=g x)->tsum f l<=tsum g l
 |[],_=>Int.le_refl 0
 |x::r,h=>by
  have h1:=h x η;have h2:=Ct (l:=r) λy hy=>h y (by simp[hy]);show f x+tsum f r<=g x+tsum g r;omega
theorem wO{f g:Nat->Nat->Int}:∀{n:Nat} {t:Nat},(∀i,i<n->f i t<=g i t)->sumN f n t<=sumN g n t
 |0,_,_=>Int.le_refl 0
 |n+1,t,h=>by
  have h1:=h n ω;have h2:=wO (n:=n) (t:=t) λi hi=>h i ω;show sumN f n t+f n t<=sumN g n t+g n t;omega
theorem rm_le{D E:Nat->Int}(h:∀t,D t<=E t):∀t:Nat,rm D t<=rm E t
 |0=>Int.le_refl 0
 |t+1=>by
  have h1:=rm_le h t;have h2:=h t;show max (rm D t) (D t)<=max (rm E t) (E t);omega
theorem cls_le{n:Net}{d e:Xa}(h:NetOk n)(hd:ShapeOk n d)(he:ShapeOk n e)(hle:Cs d e){L c:Int}{z y:Curve}(hz:clsX n d L c=.ok z)(hy:clsX n e L c=.ok y)(t:Nat):z.at t<=y.at t:=by
 rw[(uH h hd hz).2.2 t,(uH h he hy).2.2 t];refine Ct λx hx=>?_;obtain⟨⟨h1,h2,_⟩,_⟩:=cr hx;exact LF_le h hle L ω t
theorem Cu{n:Net}{d e:Xa}(h:NetOk n)(hd:ShapeOk n d)(he:ShapeOk n e)(hle:Cs d e){L:Int}(hL:0<=L/\L<n.lines.length){k:Nat}(hk:(k:Int)<(n.lines.getD L.toNat default).classes)
  {v w:Int} (hv:d7 n d L k=.ok v) (hw:d7 n e L k=.ok w):v<=w:=by
 have key:∀{x:Xa} {u:Int},d7 n x L k=.ok u->∃a,(fy n x L k).1=.ok (false,u,a):=λ{x u} hu=>by
  unfold d7 at hu;rcases hm:(fy n x L k).1 with e'|⟨i,a,b⟩
  ·rw[hm]at hu;cases hu
  ·rw[hm]at hu;dsimp only at hu;split at hu
   ·cases hu
   ·rename_i hn;injection hu with hu;subst hu;rcases i with _|_
    ·exact⟨b,rfl⟩
    ·exact absurd (.inl rfl) hn
 obtain⟨a,ha⟩:=key hv;obtain⟨b,hb⟩:=key hw;unfold fy at ha hb;by_cases hm:au n L k=[]
 ·rw[if_pos hm]at ha hb;cases ha;cases hb;exact Int.le_refl _
 ·rw[if_neg hm]at ha hb;rcases hc:cU n d L (n.lines.getD L.toNat default).classes.toNat with e1|cs
  ·rw[hc]at ha;cases ha
  ·rcases hc':cU n e L (n.lines.getD L.toNat default).classes.toNat with e2|cs'
   ·rw[hc']at hb;cases hb
   ·rw[hc]at ha;rw[hc']at hb;dsimp only at ha hb;obtain⟨q1,q2⟩:=ll h hd hL hk hc;obtain⟨q3,q4⟩:=ll h he hL hk hc';have s1:=(fR q1 q2).1.2;have s2:=(fR q3 q4).1.2;obtain⟨c1,c2⟩:=j9 hc;obtain⟨c3,c4⟩:=j9 hc';have f1:∀i,i<cs.length->FinC (cs.getD i c0):=λi hi=>(uH h hd (c2 i ω)).2.1;have f2:∀i,i<cs'.length->FinC (cs'.getD i c0):=λi hi=>(uH h he (c4 i ω)).2.1;have hat:∀i,i<cs.length->∀t:Nat,(cs.getD i c0).at t<=(cs'.getD i c0).at t:=λi hi t=>cls_le h hd he hle (c2 i ω) (c4 i ω) t;obtain⟨a1,a2,a3⟩:=s1 f1;obtain⟨b1,b2,b3⟩:=s2 f2;have kl:k<cs.length:=ω;have fin:∀{f f' g g':Nat->Int},DevH f g (ct (n.lines.getD L.toNat default) k cs (c8 n L)).1->DevH f' g' (ct (n.lines.getD L.toNat default) k cs' (c8 n L)).1->(∀t,f t<=f' t)->(∀t,g' t<=g t)->v<=w:=λ{f f' g g'} p q hf hg=>by
     obtain⟨p1,p2,p3⟩:=p v a ha;obtain⟨r1,r2,_⟩:=q w b hb;have:=Hd p2 r2 hf hg p3;omega
    by_cases k1:(n.lines.getD L.toNat default).kind=1
    ·refine fin (a1 k1) (b1 k1) (λt=>?_) (λt=>Int.le_refl _);rw[(ω:cs'.length=cs.length)];exact wO λi hi=>hat i hi t
    ·by_cases k2:(n.lines.getD L.toNat default).kind=2
     ·refine fin (a2 k2) (b2 k2) (hat k kl) (λt=>?_);refine rm_le (λi=>?_) (t+1);have:upF (sumN (λi t=>(cs.getD i c0).at t) k) (blkS (c8 n L) k ((c8 n L).length-(k+1))) i<=upF (sumN (λi t=>(cs'.getD i c0).at t) k) (blkS (c8 n L) k ((c8 n L).length-(k+1))) i:=by
       by_cases h0:i=0
       ·subst h0;exact Int.le_refl _
       ·rw[bU h0,bU h0];have:=wO (f:=λi t=>(cs.getD i c0).at t) (g:=λi t=>(cs'.getD i c0).at t) (n:=k) (t:=i) λj hj=>hat j ω i;omega
      omega
     ·exact fin (a3 k1 k2) (b3 k1 k2) (hat k kl) (λt=>Int.le_refl _)
theorem cu(c:Int)(_:0<=c)(t:Nat):(aq c).at t=c*t:=by
 have hl:(aq c).vals.length=1:=rfl;have hp:(aq c).per=1:=rfl;have hi:(aq c).inc=c:=rfl;have h0:∀i:Nat,(aq c).vals.getD i 0=0:=λi=>by
  cases i with
  |zero=>rfl
  |succ i=>rfl
 unfold Curve.at;rw[hl,hp,hi,h0,h0];split
 ·rename_i h;obtain rfl:t=0:=ω;simp
 ·rename_i h;rw[if_neg (by unfold inf;omega),Int.tdiv_one];rw[Int.zero_add,Int.mul_comm];congr 1;omega
end Go.Nc