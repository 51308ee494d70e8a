/- Merged: SX16, SX17, SX18, SX19, SX20, SX21. -/
import Derived.Test.YtdkcmppdckkofaaGreatNcSXB
import Derived.Test.YtdkcmppdckkofaaGreatNcRWX
namespace Go.Nc
open Go.Proofs.Tryz
open Go.Proofs
theorem Ae (k:Nat):(List.range (k + 2)).map (fW k) = List.replicate (k + 1) 0 ++ [inf]:=by
 rw [List.range_succ,List.map_append]
 congr 1
 ·refine List.ext_getElem η fun i h1 h2=>?_
  simp only [List.length_map,List.length_range] at h1
  simp only [List.getElem_map,List.getElem_range,List.getElem_replicate]
  exact if_neg ω
 ·exact congrArg (fun z=>[z]) (if_pos rfl)
theorem sE:∀ n:Nat,runs 0 (List.replicate n 0 ++ [inf]) = some inf
 | 0=>τ
 | n + 1=>by
  rw [List.replicate_succ,List.cons_append]
  unfold runs
  rw [if_neg ω]
  exact sE n
theorem xi {k:Nat} (hk:k <= 398):(aG k).valid = true:=by
 have hl:=bV k
 unfold Curve.valid
 rw [if_neg (by rw [hl];show ¬ (_ \/ _ \/ (1:Int) < 1 \/ (1:Int) > 120 \/ (1:Int) > _ \/ (0:Int) < 0 \/ (0:Int) > 1073741824);omega)]
 rw [show (aG k).vals = List.replicate (k + 1) 0 ++ [inf] from Ae k,sE]
 rfl
theorem qu {k:Nat} (hk:k <= 398):WfC (aG k):=by
 refine j3 (F:=fW k) (j:=k + 1) (fun t _=>?_) ω fun t _=>?_
 ·unfold fW;split
  ·exact .inr rfl
  ·exact .inl ω
 ·unfold fW;split
  ·exact .inr rfl
  ·exact .inl ω
theorem gm {k:Nat} (hk:k <= 398) (t:Nat):(aG k).at t = if t <= k then 0 else inf:=by
 have hl:=bV k
 rcases ζ t (aG k).vals.length with h | h
 ·rw [b9 h,cA ω]
  unfold fW
  by_cases e:t = k + 1
  ·rw [if_pos e,if_neg ω]
  ·rw [if_neg e,if_pos ω]
 ·obtain ⟨q,i,_,_,e3,e4,e5⟩:=wA (qu hk) h
  have hp:(aG k).per.toNat = 1:=rfl
  have hi:(aG k).vals.getD i 0 = inf:=by
   rw [cA ω];exact if_pos ω
  rw [e5,if_pos hi,if_neg ω]
set_option maxHeartbeats 1000000 in
theorem Af (fid:FuncId) (o1:LObj) (hl1:o1.live = true) (hc1:obCl [] o1) (F:Nat -> Int) (s p m:Nat) (inc:Int) (hp:1 <= p/\s + p <= 1000000) (hm:m < s + p/\m + 1 <= 400) (hF:∀ t,t < m -> 0 <= F t/\F t <= 1073741824) (hFm:F m = inf)
  (hat:∀ t:Nat,t <= m -> q0b fid [.int .i64 t,.lptr 901 0] [(901,o1)] (.int .i64 (F t)) [(901,o1)]) :
  ∃ x,x = .ok ⟨(List.range (m + 1)).map F,1,0⟩/\q0b 152 [.fn fid [.lptr 901 0],.int .i64 s,.int .i64 p,.int .i64 inc] [(901,o1)] (aA x) [(901,o1)]:=by
 have hcl:∀ q ∈ [(901,o1)],obCl ([(901,o1)].map (·.1)) q.2:=aE (aY hc1 _)
 refine opE func152 ntmps152 results152 ?_ (hcl:=⟨by simp [hl1],rfl,hcl⟩) (hco:=fun x=>⟨aM x _,hcl,rfl⟩)
 repeat' (first|refine' ah | fail)
 all_goals try exact ariA
 refine ag (ι:={j:Nat // j <= m}) [0,1,2,3,8] [901,8] [] ⟨0,ω⟩ (fun ⟨j,_⟩=>s + p - j) (fun ⟨j,_⟩=>[(10,.osl 17 (s + p)),(19,.int .i64 (s + p)),(20,.int .i64 j)]) (fun ⟨j,_⟩=>[(17,some (.arr (s + p) 1 (gC F j) 3))]) ?_ ?_
 ·refine ⟨⟨rfl,rfl⟩,?_,?_⟩
  all_goals ((refine' subP)<;>first|exact q0a ω fun i hi=>rfl|exact Ψ (congrArg (AV.osl 17) ω)|exact sq1)
 ·rintro ⟨j,hj⟩
  conv=>whnf
  have hjl:(j:Int) < (s:Int) + p:=ω
  have e1:(j:Int).toNat = j:=ω
  by_cases hjm:j = m
  ·subst hjm
   obtain ⟨xe,qe,pe⟩:=j2 (j + 1) ω F
   rcases xe with e | c
   ·obtain ⟨_,q | ⟨i,q1,q2,q3⟩⟩:=qe
    ·omega
    ·rcases ζ i j with g | g
     ·have:=hF i g;omega
     ·obtain rfl:i = j:=ω
      exact absurd hFm q3
   ·obtain ⟨_,q2,_⟩:=qe
    subst q2
    repeat' (first|(refine aa (fun hb=>?_) (fun hb=>absurd hFm hb);conv=>whnf)|(refine gvE ?_;conv=>whnf)|(refine aa (fun hb=>?_) (fun hb=>?_)<;>conv=>whnf)|(refine aq (fun hb=>?_) (fun hb=>?_)<;>conv=>whnf)|(refine Side.mk ?_ ?_;rotate_left;conv=>whnf)|(refine VCells.mk ⟨_,rfl,?_⟩;conv=>whnf)|(refine DrawOk.mk ⟨rfl,rfl⟩ ?_;conv=>whnf)|(refine i4 (hat j (ξ _)) rfl ?_;conv=>whnf)|(dsimp only;rw [Nat.beq_refl];conv=>whnf)|(refine aX [] [] pe rfl ?_ ?_ ?_ ?_;rotate_left;rotate_left;rotate_left;conv=>whnf)|(refine aK (fun hb=>?_) (fun hb=>?_)<;>conv=>whnf))
    all_goals try first|exact ariA|exact fun i hi=>(show (bif Nat.beq i j then [AV.int .i64 (F j)] else gC F j i) = _ from fe ω)|exact fun i _=>(by cases i.beq (j:Int).toNat<;>rfl)
    exact aL ⟨_,rfl,⟨rfl,trivial⟩,rfl⟩
  ·have hv:=hF j ω
   have hne:¬ F j = inf:=by unfold inf;omega
   repeat' (first|(refine' aU [] ⟨j + 1,ω⟩<;>first|exact q0a rfl fun i hi=>b5 rfl|exact sq1)|(refine aa (fun hb=>absurd hb hne) (fun hb=>?_);conv=>whnf)|(refine gvE ?_;conv=>whnf)|(refine aa (fun hb=>?_) (fun hb=>?_)<;>conv=>whnf)|(refine aq (fun hb=>?_) (fun hb=>?_)<;>conv=>whnf)|(refine Side.mk ?_ ?_;rotate_left;conv=>whnf)|(refine VCells.mk ⟨_,rfl,?_⟩;conv=>whnf)|(refine DrawOk.mk ⟨rfl,rfl⟩ ?_;conv=>whnf)|(refine i4 (hat j ω) rfl ?_;conv=>whnf)|(dsimp only;rw [Nat.beq_refl];conv=>whnf)|(refine aK (fun hb=>?_) (fun hb=>?_)<;>conv=>whnf))
   all_goals try exact ariA
theorem uk (k:Nat) (hk:k <= 398):q0c 163 [(aG k).av] (aA (.ok (aG k))):=by
 have pv:=cJ (aG k)
 rw [xi hk] at pv
 have hw:=qu hk
 have hl:=bV k
 have hp:(aG k).per.toNat = 1:=rfl
 have p1:=nX (aG k).vals ω
 have p2:=ce (aG k) hw
 obtain ⟨x,hx,p3⟩:=Af 215 (.box (aG k).cells) rfl rfl (fun t=>(aG k).at t) ((aG k).vals.length - (aG k).per.toNat) (aG k).per.toNat (k + 1) (aG k).inc ω ω (fun t ht=>by
  rw [gm hk,if_pos ω];omega) (by rw [gm hk,if_neg ω]) (fun t ht=>Ca (aG k) hw t ω)
 have e:(List.range (k + 1 + 1)).map (fun t:Nat=>(aG k).at t) = (aG k).vals:=by
  refine List.map_congr_left fun t ht=>?_
  simp only [List.mem_range] at ht
  rw [gm hk]
  unfold fW
  by_cases e:t = k + 1
  ·rw [if_pos e,if_neg ω]
  ·rw [if_neg e,if_pos ω]
 rw [e] at hx
 subst hx
 rw [show (((aG k).per.toNat:Nat):Int) = (aG k).per from rfl] at p3
 refine opG func163 ntmps163 results163 fun w0 Im0 ρ0=>?_
 repeat' (first|(refine aS [2,3] [2] [(901,1)] [(1,.lptr 901 0)] [(901,some (.box (aG k).cells))] ⟨⟨rfl,rfl⟩,sq1,sq1⟩ ?_;conv=>whnf)|refine' ak|refine ab pv ?_|refine ab p1 ?_|refine ab p2 ?_|refine a6 p3 ?_)
 all_goals exact Φ
theorem xj (c:Curve) (hc:Gd c) (k:Nat) (hk:k <= 398):∃ (a:Curve) (T:Nat),(WfC a/\FinC a/\(∀ t:Nat,a.at t = c.at t)/\k + 1 <= T/\T <= 520)/\q0c 182 [c.av,(aG k).av] (devR (.ok (a,aG k,T,false))):=by
 obtain ⟨y,⟨hy,_,hN⟩,p1⟩:=bP c
 obtain ⟨a,rfl⟩:=bA hc (hN hc)
 obtain ⟨_,aw,af⟩:=hy
 obtain ⟨fa,ea⟩:=af hc.2
 have p2:=uk k hk
 have bw:=qu hk
 have ap:=aw.per
 have al:=aw.len
 have hl:=bV k
 have hp:(aG k).per = 1:=rfl
 obtain ⟨l,hlq,p3⟩:=gR a.per.toNat 1 ω ω
 have el:l = a.per.toNat:=by have:=hlq.eq;rw [Nat.gcd_one_right,Nat.div_one,Nat.mul_one] at this;exact this
 rw [(ω:((a.per.toNat:Nat):Int) = a.per)] at p3
 have p3:q0c 164 [.int .i64 a.per,.int .i64 (aG k).per] (.int .i64 l):=p3
 have p4:=ce a aw
 have p5:=ce (aG k) bw
 have p6:=dt a ω
 have p7:=dt (aG k) ω
 have hfb:finB (aG k) = false:=by unfold finB;rw [rB];rfl
 rw [hfb] at p7
 have h:(l:Int) <= 120:=ω
 obtain ⟨T0,eT⟩:∃ T0:Nat,max ((a.vals.length - a.per.toNat:Nat):Int) (((aG k).vals.length - (aG k).per.toNat:Nat):Int) + (l:Int) = (T0:Int):=⟨max (a.vals.length - a.per.toNat) ((aG k).vals.length - (aG k).per.toNat) + l,ω⟩
 have hpn:(aG k).per.toNat = 1:=rfl
 refine ⟨a,T0,⟨aw,fa,ea,ω,ω⟩,?_⟩
 refine opG func182 ntmps182 results182 fun w0 Im0 ρ0=>?_
 repeat' (first|refine' ak|refine ab p1 ?_|refine ab p2 ?_|refine ab p3 ?_|refine ab p4 ?_|refine ab p5 ?_|refine ab p6 ?_|refine ab p7 ?_)
 all_goals first|exact ariA|exact AvLe.tup (.cons (AvLe.agg (.cons Φ (.cons Φ (.cons Φ (.cons Φ (.cons Φ (.cons Φ (.cons (Θ eT) (.cons Φ .nil))))))))) (.cons Φ .nil))
def cutF (c:Curve) (k:Nat):Nat -> Int:=fun t=>if t <= k then c.at t else 0
theorem sF (k:Nat) (hk:k <= 398):q0c 189 [(aG k).av] (aA (.ok (aG k))):=by
 obtain ⟨_,rfl,p1⟩:=je k ω
 obtain ⟨_,rfl,p2⟩:=jf k hk
 refine opG func189 ntmps189 results189 fun w0 Im0 ρ0=>?_
 repeat' (first|refine' ak|refine ab p1 ?_|refine ab p2 ?_)
 all_goals exact Φ
theorem Ag (k:Nat) (hk:k <= 398):q0c 172 [(aG k).av] (.bool false):=by
 obtain ⟨_,rfl,p1⟩:=jf k hk
 have hl:=bV k
 have hlast:(aG k).vals.getD (((aG k).vals.length:Int) - 1).toNat 0 = 4611686018427387904:=by
  rw [hl,cA ω];exact if_pos ω
 refine opG func172 ntmps172 results172 fun w0 Im0 ρ0=>?_
 repeat' (first|refine' ak|refine ab p1 ?_)
 all_goals first|exact ariA|exact Ψ (congrArg AV.bool (by rw [hlast];rfl))|(rw [hlast];exact Φ)
theorem sG (f g:Curve) (h1:f.vals.length <= 400) (h2:g.vals.length <= 400) (l:Nat) (hl:l <= 120):q0c 187 [f.av,g.av,.int .i64 l] (.int .i64 (((max f.vals.length g.vals.length + l:Nat)):Int)):=by
 refine opG func187 ntmps187 results187 fun w0 Im0 ρ0=>?_
 repeat' (first|refine' ak | fail)
 all_goals first|exact υ|(refine Θ ?_;omega)|omega
theorem xk (c:Curve) (hc:Gd c) (k:Nat) (hk:k <= 398):∃ (a:Curve) (l:Nat),(LeastQ c a/\1 <= l/\l <= 120)/\q0c 155 [c.av,(aG k).av] (C3 (.ok (a,aG k,l))):=by
 obtain ⟨cw,cl,_⟩:=dB hc
 obtain ⟨y,hy,he,hN,p1⟩:=cr c cw
 obtain ⟨a,rfl⟩:=bA hc (hN hc)
 obtain ⟨qa,_⟩:=hy a rfl
 have p2:=sF k hk
 have ap:=qa.wf.per
 have al:=(qa.lim cl).per
 have hp:(aG k).per = 1:=rfl
 obtain ⟨l,hl,p3⟩:=Cc a.per.toNat 1 ω ω
 have el:l = a.per.toNat:=by have:=hl.eq;rw [Nat.gcd_one_right,Nat.div_one,Nat.mul_one] at this;exact this
 rw [(ω:((a.per.toNat:Nat):Int) = a.per)] at p3
 have p3:q0c 211 [.int .i64 a.per,.int .i64 (aG k).per] (.int .i64 l):=p3
 refine ⟨a,l,⟨qa,ω,ω⟩,?_⟩
 refine opG func155 ntmps155 results155 fun w0 Im0 ρ0=>?_
 repeat' (first|refine' ak|refine ab p1 ?_|refine ab p2 ?_|refine ab p3 ?_)
 all_goals first|(exfalso;omega)|exact Φ
def AttW (a b:Curve) (W:Nat) (v:Int):Prop:=v = 0 \/ ∃ t s:Nat,t < W/\s + 1 = t + v.toNat/\b.at s < a.at t
def optL (x:Int):List Int:=if x = 0 then [0,1] else [0,1,1 + x]
def optsX (n:Net) (d:List (List Int)) (i k:Nat):Except Int (List Int) :=
 if (d.getD ((n.flows.getD i default).route.getD k 0).toNat []).getD (n.flows.getD i default).class_.toNat 0 < 0 then .error 5
 else .ok (optL ((d.getD ((n.flows.getD i default).route.getD k 0).toNat []).getD (n.flows.getD i default).class_.toNat 0))
def optR:Except Int (List Int) -> AV
 | .ok l=>.tup [ints l,.int .i64 0]
 | .error e=>.tup [.nils,.int .i64 e]
theorem lt3 {p:Nat -> Prop} (h0:p 0) (h1:p 1) (h2:p 2):∀ i,i < 3 -> p i:=fun i hi=>by
 match i with
 | 0=>exact h0
 | 1=>exact h1
 | 2=>exact h2
 | i + 3=>omega
def DelP (c d:Curve):Prop:=(q0c 110 [c.av,d.av] (dvR (.error 3))/\q0c 111 [c.av,d.av] (dvR (.error 3))) \/
 ∃ (i:Bool) (v w v' w':Int),(i = false -> v = v')/\q0c 110 [c.av,d.av] (dvR (.ok (i,v,w)))/\q0c 111 [c.av,d.av] (dvR (.ok (i,v',w')))
theorem DevE.pair {f g:Nat -> Int} (hg:∀ s t:Nat,s <= t -> g s <= g t) {c d:Curve} {x y:Except Int Dev} (hx:DevE f g x) (hy:DevE f g y) (p:q0c 110 [c.av,d.av] (dvR x)) (q:q0c 111 [c.av,d.av] (dvR y)):DelP c d:=by
 obtain ⟨⟨i,v,w⟩,⟨j,v',w'⟩,rfl,rfl,e1,e2⟩:=hx.same hg hy
 dsimp only at e1 e2
 subst e1
 exact .inr ⟨i,v,w,v',w',e2,p,q⟩
def sngR:Except Int Int -> AV
 | .ok v=>.tup [.int .i64 v,.int .i64 0]
 | .error e=>.tup [.int .i64 0,.int .i64 e]
theorem CallSpec.res {P:Program} {f:FuncId} {vs:List AV} {r r':AV} (h:CallSpec P f vs [] r []) (hle:AvLe r r') (hn:nmV [] r' = true):CallSpec P f vs [] r' [] :=
 ⟨h.enter,h.icl,h.live,fun w ρ Im xs hm hx=>(h.calls w ρ Im xs hm hx).mono fun e w' ⟨y,ρ',Im',he,hcy,_,hmem⟩=>⟨y,ρ',Im',he,hle.con _ _ _ _ hcy,fun i hi=>by have:=cj hi hn;simp at this,hmem⟩⟩
def crC:Except Int Curve -> Curve
 | .ok c=>c
 | .error _=>⟨[],0,0⟩
def crN {α:Type}:Except Int α -> Int
 | .ok _=>0
 | .error e=>e
def opL:Except Int (List Int) -> List Int
 | .ok l=>l
 | .error _=>[]
def snV:Except Int Int -> Int
 | .ok v=>v
 | .error _=>0
def PlcOk (n:Net) (i k:Int):Prop:=0 <= i/\i < n.flows.length/\0 <= k/\k < (n.flows.getD i.toNat default).route.length
def RBad (n:Net) (d:List (List Int)) (i k e:Int):Prop:=(e = 6/\q0c 98 [n.av,az d] (.bool false)/\q0c 120 [n.av,az d] (.bool false)) \/
 (e = 2/\q0c 98 [n.av,az d] (.bool true)/\q0c 99 [n.av,.int .i64 i,.int .i64 k] (.bool true)/\q0c 120 [n.av,az d] (.bool true)/\(n.flows.length <= 1000/\∀ j:Nat,j < n.flows.length -> (n.flows.getD j default).route.length <= 1000)/\¬ PlcOk n i k)
section
variable {n:Net} {d:List (List Int)} {i k e:Int} (he:e ≠ 0) (p:q0c 91 [n.av,az d,.int .i64 i,.int .i64 k] (.tup [.int .i64 0,.int .i64 e])) (q:RBad n d i k e)
include he p
end
structure PlcQ (n:Net) (d:List (List Int)) (i k c θ:Int) (A R C:Except Int Curve) (L:Except Int (List Int)) (S:Except Int Int):Prop where
 o1:q0c 31 [n.av,az d,.int .i64 i,.int .i64 k] (.tup [(crC A).av,.int .i64 (crN A)])
 o2:q0c 32 [n.av,az d,.int .i64 i,.int .i64 k] (.tup [(crC A).av,.int .i64 (crN A)])
 r1:q0c 33 [n.av,az d,.int .i64 i,.int .i64 k,.int .i64 θ] (.tup [(crC R).av,.int .i64 (crN R)])
 r2:q0c 34 [n.av,az d,.int .i64 i,.int .i64 k,.int .i64 θ] (.tup [(crC R).av,.int .i64 (crN R)])
 c1:q0c 35 [n.av,az d,.int .i64 i,.int .i64 k,.int .i64 c] (.tup [(crC C).av,.int .i64 (crN C)])
 c2:q0c 36 [n.av,az d,.int .i64 i,.int .i64 k,.int .i64 c] (.tup [(crC C).av,.int .i64 (crN C)])
 l1:q0c 38 [n.av,az d,.int .i64 i,.int .i64 k] (.tup [ints (opL L),.int .i64 (crN L)])
 l2:q0c 39 [n.av,az d,.int .i64 i,.int .i64 k] (.tup [ints (opL L),.int .i64 (crN L)])
 s1:q0c 40 [n.av,az d,.int .i64 i,.int .i64 k,.int .i64 c] (.tup [.int .i64 (snV S),.int .i64 (crN S)])
 s2:q0c 41 [n.av,az d,.int .i64 i,.int .i64 k,.int .i64 c] (.tup [.int .i64 (snV S),.int .i64 (crN S)])
 so:q0c 37 [(crC A).av,(crC A).av] (.bool true)
 sr:q0c 37 [(crC R).av,(crC R).av] (.bool true)
 sc:q0c 37 [(crC C).av,(crC C).av] (.bool true)
 sl:q0c 42 [ints (opL L),ints (opL L)] (.bool true)
end Go.Nc
