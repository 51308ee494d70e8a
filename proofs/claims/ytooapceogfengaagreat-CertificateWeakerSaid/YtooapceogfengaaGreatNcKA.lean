/- Parts. -/
import Derived.Test.YtooapceogfengaaGreatNcBS
import Derived.Test.YtooapceogfengaaGreatNcEA
namespace Go.Nc
open Go.Proofs.Tryz
open Go.Proofs
set_option maxHeartbeats 8000000
theorem q7(burst period more:Int)(h0:0<=period)(h1:period<=100000):q0d 35 [J burst,J period,J more] (Curve.av ⟨0::List.replicate period.toNat burst,period,more⟩):=by
 refine opG func35 ntmps35 results35 λw0 Im0 ρ0=>?_;repeat'(first|refine' aj|fail)
 refine aD (ι:={j:Nat//(j:Int)<=period}) [0,1,6,7] [6] [] ⟨0,h0⟩ (λj=>period.toNat-j.1) (λj=>[(8,J j.1)]) (λj=>[(7,some (.box [.osl 9 (j.1+1),J period,J more])),(9,some (.arr (0::List.replicate j.1 burst).length 1 (eget encI 0 (0::List.replicate j.1 burst)) 3))]) ?_ ?_
 ·refine⟨⟨rfl,rfl⟩,?_,?_⟩;all_goals try refine' subB
  all_goals(refine q0b rfl λi hi=>?_;have:i=0:=ω)
  subst this;rfl
 ·intro j;conv=>whnf
  have hj:=j.2;repeat'(first|refine' gO|(refine bE [6] [6,9] [] [] [] ⟨⟨rfl,rfl⟩,?_,?_⟩ (co 9 rfl rfl (λ_ _=>rfl) ?_ ?_ (dM ?_)))|(refine aE [(9,22)] ⟨j.1+1,?_⟩ ⟨⟨rfl,rfl⟩,?_,?_⟩ ?_))
  all_goals try refine' subB
  all_goals try exact υ
  all_goals try omega
  ·have e:(0::List.replicate (j.1+1) burst)=(0::List.replicate j.1 burst)++[burst]:=by simp[List.replicate_succ']
   show ObLe _ (reO _ (.arr (0::List.replicate (j.1+1) burst).length 1 (eget encI 0 (0::List.replicate (j.1+1) burst)) 3));rw[e];refine q0b η λi hi=>bW encI 0 _ burst η i hi _ λe=>?_;subst e;simp;rfl
  ·dsimp only;omega
  ·simp
  ·intro i hi;have:i=0:=ω;subst this;rfl
  ·exactλi _=>⟨trivial,trivial⟩
  ·show j.1+1<=_;simp
  ·have e:period.toNat=j.1:=ω;refine AvLe.agg (.cons (Γ ?_ λi hi=>?_) (.cons Ψ (.cons Ψ .nil)))
   ·simp[e]
   ·rw[e];rfl
theorem nc{l:List Int}(h:0<l.length)(s:Rd):(s.pick l).1∈l:=by
 have hm:=mod_lt (x:=s.raw.1) (n:=l.length) ω;have:(mod s.raw.1 l.length).toNat<l.length:=ω;show l.getD (mod s.raw.1 l.length).toNat 0∈l;simp[this]
theorem Rd.range_ok{s:Rd}(lo hi:Int)(h:s.ok):(s.range lo hi).2.ok:=s.raw_ok h
theorem Rd.pick_ok{s:Rd}(l:List Int)(h:s.ok):(s.pick l).2.ok:=s.raw_ok h
def Rd.contract(s:Rd):Curve×Rd :=
 let a:=s.range 4 16
 let b:=a.2.pick [1,2,3,4,6,12]
 let c:=b.2.n 4
 (⟨0::List.replicate b.1.toNat a.1,b.1,c.1⟩,c.2)
theorem Rd.contract_ok{s:Rd}(h:s.ok):s.contract.2.ok:=Rd.n_ok 4 (Rd.pick_ok _ (Rd.range_ok _ _ h))
theorem rO(s:Rd)(hs:s.ok):q0c 37 [.lptr 900 0] [(900,s.ob)] s.contract.1.av [(900,s.contract.2.ob)]:=by
 have hp:=nc (l:=[1,2,3,4,6,12]) η (s.range 4 16).2;simp only[List.mem_cons,List.not_mem_nil,or_false]at hp;refine opG func37 ntmps37 results37 (λw0 Im0 ρ0=>?_) (hcl:=⟨rfl,rfl,rfl,bD rfl,bD rfl,rfl⟩);repeat'(first|refine' fX|refine bT (fA s hs 4 16 ω ω ω) ?_|(refine bT (mK _ (Rd.pick_ok _ (Rd.range_ok _ _ hs)) 4 υ) ?_)|refine ab (q7 _ _ _ ω ω) ?_|(refine qw [.lptr 900 0] [] (tS (s.range 4 16).2 (Rd.range_ok _ _ hs) [1,2,3,4,6,12] η η) rfl rfl rfl (ξ _) ?_ ?_ ?_;rotate_left;rotate_left;conv=>whnf))
 ·exact Ψ
 ·rfl
 ·exact aK (by repeat'(first|exact True.intro|rfl|refine And.intro ?_ ?_))
 ·exact aK (by repeat'(first|exact True.intro|rfl|refine And.intro ?_ ?_))
def Rd.many(l:List Int)(f:Rd->Int×Rd):Nat->Rd->List Int×Rd
 |0,s=>(l,s)
 |n+1,s=>((Rd.many l f n s).1++[(f (Rd.many l f n s).2).1],(f (Rd.many l f n s).2).2)
theorem Rd.many_ok{l:List Int}{f:Rd->Int×Rd}(hf:∀s,s.ok->(f s).2.ok):∀(n:Nat) {s:Rd},s.ok->(Rd.many l f n s).2.ok
 |0,_,h=>h
 |n+1,_,h=>hf _ (Rd.many_ok hf n h)
theorem Rd.many_len{l:List Int}{f:Rd->Int×Rd}:∀(n:Nat) (s:Rd),(Rd.many l f n s).1.length=l.length+n
 |0,_=>rfl
 |n+1,s=>by simp[Rd.many,Rd.many_len n s];omega
theorem Rd.many0_len{f:Rd->Int×Rd}(n:Nat)(s:Rd):n=(Rd.many [] f n s).1.length:=by simp[Rd.many_len]
def upto:Nat->List Int
 |0=>[]
 |n+1=>upto n++[(n:Int)]
theorem kC:∀n:Nat,(upto n).length=n
 |0=>rfl
 |n+1=>by simp[upto,kC n]
def Rd.port2(cap classes:Int)(s:Rd):Line×Rd :=
 let c:=s.n 4
 if c.1=0 then(⟨2,cap,classes,[],[]⟩,c.2)
 else if c.1=1 then
  let w:=Rd.many [] (Rd.range 1 3) classes.toNat c.2
  (⟨3,cap,classes,w.1,[]⟩,w.2)
 else if c.1=2 then
  let w:=Rd.many [] (Rd.range 8 20) classes.toNat c.2
  (⟨4,cap,classes,w.1,[]⟩,w.2)
 else
  let e:=c.2.n 3
  let w:=Rd.many (upto classes.toNat) (Rd.range (-1) (classes-1)) e.1.toNat e.2
  (⟨5,cap,classes,[],w.1⟩,w.2)
theorem q8(w0:World0)(Im0:Nat->Prop)(ρ0:Loc)(s:Rd)(hs:s.ok)(cap classes:Int)(h0:1<=classes)(h1:classes<=6) :
  GoodS prog ⟨w0,Im0,[900],ρ0,85⟩ (cdr (cdr (cdr (bodyOf Tryz.f19)))) ⟨[(0,.lptr 900 0),(1,J classes),(4,.lptr 4 0),(5,.lptr 5 0)],[(5,some (.box [J 1,J cap,J classes,.nils,.nils])),(900,some s.ob),(4,some (.box [J 0,J 0,J 0,.nils,.nils]))]⟩
   (Fin T ⟨w0,Im0,[900],ρ0,85⟩ [.cell 4 62] (s.port2 cap classes).1.av [(900,(s.port2 cap classes).2.ob)]):=by
 repeat'(first|refine' fX|refine bT (mK _ hs 4 υ) ?_|(refine bT (mK _ (s.n_ok 4 hs) 3 υ) ?_))
 ·rw[show s.port2 cap classes=(⟨2,cap,classes,[],[]⟩,(s.n 4).2) by unfold Rd.port2;simp[*]];exact AvLe.agg (.cons Ψ (.cons Ψ (.cons Ψ (.cons AvLe.nils (.cons AvLe.nils .nil)))))
 ·rw[show s.port2 cap classes=(⟨2,cap,classes,[],[]⟩,(s.n 4).2) by unfold Rd.port2;simp[*]];rfl
 ·have e : s.port2 cap classes=(⟨3,cap,classes,(Rd.many [] (Rd.range 1 3) classes.toNat (s.n 4).2).1,[]⟩,(Rd.many [] (Rd.range 1 3) classes.toNat (s.n 4).2).2):=by
   unfold Rd.port2;simp[*]
  rw[e];have hok:∀n,(Rd.many [] (Rd.range 1 3) n (s.n 4).2).2.ok:=λn=>Rd.many_ok (λ_ h=>Rd.range_ok _ _ h) n (s.n_ok 4 hs);refine ⟨fH 5 3 100 1 3 rfl rfl rfl rfl (aD (ι:={j:Nat//(j:Int)<=classes}) [0,1,4,5] [4] [] ⟨0,ω⟩ (fun j=>classes.toNat-j.1) (fun j=>[(6,J j.1)])
   (λj=>[(5,some (.box [J 3,J cap,J classes,.osl 100 j.1,.nils])),(100,some (.arr j.1 1 (eget encI 0 (Rd.many [] (Rd.range 1 3) j.1 (s.n 4).2).1) 3)),(900,some (Rd.many [] (Rd.range 1 3) j.1 (s.n 4).2).2.ob)]) ?_ ?_).good⟩
  ·refine⟨⟨rfl,rfl⟩,?_,?_⟩;all_goals try refine' subB
   all_goals exact q0b rfl (ν)
  ·intro j;conv=>whnf
   have hj:=j.2;repeat'(first|refine' gO|(refine bE [4] [4,100,900] [] [] [] ⟨⟨rfl,rfl⟩,?_,?_⟩ (co 100 rfl rfl (λ_ _=>rfl) ?_ ?_ (iT ?_ ?_)))|(refine bT (fA _ (hok j.1) 1 3 ω ω ω) ?_)|(refine aE [(100,67)] ⟨j.1+1,?_⟩ ⟨⟨rfl,rfl⟩,?_,?_⟩ ?_))
   all_goals try refine' subB
   all_goals try exact υ
   all_goals try omega
   all_goals try(refine q0b rfl λi hi=>bW encI 0 _ _ (Rd.many0_len _ _) i hi _ λe=>?_;subst e;simp;rfl)
   all_goals try(show(_:Nat)<_;dsimp only;omega)
   all_goals try(exactλi _=>⟨trivial,trivial⟩)
   all_goals try (intro i hi;have:i=0:=ω
                  subst this;rfl)
   all_goals try exact ξ j.1
   all_goals have ej:classes.toNat=j.1:=ω
   all_goals rw[ej]
   all_goals first|rfl|exact AvLe.agg (.cons Ψ (.cons Ψ (.cons Ψ (.cons (Γ (Rd.many0_len _ _) λi hi=>rfl) (.cons AvLe.nils .nil)))))
 ·have e : s.port2 cap classes=(⟨4,cap,classes,(Rd.many [] (Rd.range 8 20) classes.toNat (s.n 4).2).1,[]⟩,(Rd.many [] (Rd.range 8 20) classes.toNat (s.n 4).2).2):=by
   unfold Rd.port2;simp[*]
  rw[e];have hok:∀n,(Rd.many [] (Rd.range 8 20) n (s.n 4).2).2.ok:=λn=>Rd.many_ok (λ_ h=>Rd.range_ok _ _ h) n (s.n_ok 4 hs);refine ⟨fH 5 3 100 1 3 rfl rfl rfl rfl (aD (ι:={j:Nat//(j:Int)<=classes}) [0,1,4,5] [4] [] ⟨0,ω⟩ (fun j=>classes.toNat-j.1) (fun j=>[(7,J j.1)])
   (λj=>[(5,some (.box [J 4,J cap,J classes,.osl 100 j.1,.nils])),(100,some (.arr j.1 1 (eget encI 0 (Rd.many [] (Rd.range 8 20) j.1 (s.n 4).2).1) 3)),(900,some (Rd.many [] (Rd.range 8 20) j.1 (s.n 4).2).2.ob)]) ?_ ?_).good⟩
  ·refine⟨⟨rfl,rfl⟩,?_,?_⟩;all_goals try refine' subB
   all_goals exact q0b rfl (ν)
  ·intro j;conv=>whnf
   have hj:=j.2;repeat'(first|refine' gO|(refine bE [4] [4,100,900] [] [] [] ⟨⟨rfl,rfl⟩,?_,?_⟩ (co 100 rfl rfl (λ_ _=>rfl) ?_ ?_ (iT ?_ ?_)))|(refine bT (fA _ (hok j.1) 8 20 ω ω ω) ?_)|(refine aE [(100,82)] ⟨j.1+1,?_⟩ ⟨⟨rfl,rfl⟩,?_,?_⟩ ?_))
   all_goals try refine' subB
   all_goals try exact υ
   all_goals try omega
   all_goals try(refine q0b rfl λi hi=>bW encI 0 _ _ (Rd.many0_len _ _) i hi _ λe=>?_;subst e;simp;rfl)
   all_goals try(show(_:Nat)<_;dsimp only;omega)
   all_goals try(exactλi _=>⟨trivial,trivial⟩)
   all_goals try (intro i hi;have:i=0:=ω
                  subst this;rfl)
   all_goals try exact ξ j.1
   all_goals have ej:classes.toNat=j.1:=ω
   all_goals rw[ej]
   all_goals first|rfl|exact AvLe.agg (.cons Ψ (.cons Ψ (.cons Ψ (.cons (Γ (Rd.many0_len _ _) λi hi=>rfl) (.cons AvLe.nils .nil)))))
 ·have e : s.port2 cap classes=(⟨5,cap,classes,[],(Rd.many (upto classes.toNat) (Rd.range (-1) (classes-1)) ((s.n 4).2.n 3).1.toNat ((s.n 4).2.n 3).2).1⟩,(Rd.many (upto classes.toNat) (Rd.range (-1) (classes-1)) ((s.n 4).2.n 3).1.toNat ((s.n 4).2.n 3).2).2):=by
   unfold Rd.port2;simp[*]
  rw[e];have hm:0<=((s.n 4).2.n 3).1/\((s.n 4).2.n 3).1<3:=mod_lt (x:=(s.n 4).2.raw.1) (n:=3) ω;have hok:∀n,(Rd.many (upto classes.toNat) (Rd.range (-1) (classes-1)) n ((s.n 4).2.n 3).2).2.ok:=λn=>Rd.many_ok (λ_ h=>Rd.range_ok _ _ h) n ((s.n 4).2.n_ok 3 (s.n_ok 4 hs));refine ⟨fH 5 4 100 1 3 rfl rfl rfl rfl (aD (ι:={j:Nat//(j:Int)<=classes}) [0,1,4,5] [4,900] [] ⟨0,ω⟩ (fun j=>classes.toNat-j.1) (fun j=>[(8,J j.1)])
   (λj=>[(5,some (.box [J 5,J cap,J classes,.nils,.osl 100 j.1])),(100,some (.arr j.1 1 (eget encI 0 (upto j.1)) 3))]) ?_ ?_).good⟩
  ·refine⟨⟨rfl,rfl⟩,?_,?_⟩;all_goals try refine' subB
   all_goals exact q0b rfl (ν)
  ·intro j;conv=>whnf
   have hj:=j.2;repeat'(first|refine' aj|(refine bT (mK _ (s.n_ok 4 hs) 3 υ) ?_)|(refine aE [(100,34)] ⟨j.1+1,?_⟩ ⟨⟨rfl,rfl⟩,?_,?_⟩ ?_))
   all_goals try refine' subB
   all_goals try exact υ
   all_goals try omega
   all_goals try(refine q0b rfl λi hi=>bW encI 0 _ _ (kC _).symm i hi _ λe=>?_;subst e;simp;rfl)
   all_goals try(show(_:Nat)<_;dsimp only;omega)
   all_goals try (intro i hi;have:i=0:=ω
                  subst this;rfl)
   have ej:classes.toNat=j.1:=ω;rw[ej]at hok⊢;clear e;generalize (s.n 4).2.n 3=q at *;refine aD (ι:={i:Nat//(i:Int)<=q.1}) [0,1,4,5] [4] [] ⟨0,hm.1⟩ (λi=>q.1.toNat-i.1) (λi=>[(9,J (q.1-i.1))])
    (λi=>[(5,some (.box [J 5,J cap,J classes,.nils,.osl 100 (j.1+i.1)])),(100,some (.arr (j.1+i.1) 1 (eget encI 0 (Rd.many (upto j.1) (Rd.range (-1) (classes-1)) i.1 q.2).1) 3)),(900,some (Rd.many (upto j.1) (Rd.range (-1) (classes-1)) i.1 q.2).2.ob)]) ?_ ?_
   ·refine⟨⟨rfl,rfl⟩,?_,?_⟩;all_goals try refine' subB
   ·intro i;conv=>whnf
    have hi:=i.2;have hi2:q.1<3:=hm.2;have hl:j.1+i.1=(Rd.many (upto j.1) (Rd.range (-1) (classes-1)) i.1 q.2).1.length:=by rw[Rd.many_len,kC]
    repeat'(first|refine' gO|(refine bE [4] [4,100,900] [] [] [] ⟨⟨rfl,rfl⟩,?_,?_⟩ (co 100 rfl rfl (λ_ _=>rfl) ?_ ?_ (iT ?_ ?_)))|(refine bT (fA _ (hok i.1) (-1) (classes-1) ω ω ω) ?_)|(refine aE [(100,49)] ⟨i.1+1,?_⟩ ⟨⟨rfl,rfl⟩,?_,?_⟩ ?_))
    all_goals try refine' subB
    all_goals try exact υ
    all_goals try omega
    all_goals try(refine q0b (Nat.add_assoc _ _ _) λk hk=>bW encI 0 _ _ hl k hk _ λe=>?_;subst e;simp;rfl)
    all_goals try(show(_:Nat)<_;dsimp only;omega)
    all_goals try(exactλi _=>⟨trivial,trivial⟩)
    all_goals try (intro k hk;have:k=0:=ω
                   subst this;rfl)
    all_goals try exact ξ _
    all_goals try (have ei:q.1.toNat=i.1:=ω
                   rw[ei])
    all_goals try first|rfl|exact AvLe.agg (.cons Ψ (.cons Ψ (.cons Ψ (.cons AvLe.nils (.cons (Γ hl λi hi=>rfl) .nil)))))
theorem Rd.port2_ok{s:Rd}(cap classes:Int)(h:s.ok):(s.port2 cap classes).2.ok:=by
 unfold Rd.port2;dsimp only;have h4:=s.n_ok 4 h;split
 ·exact h4
 ·split
  ·exact Rd.many_ok (λ_ h=>Rd.range_ok _ _ h) _ h4
  ·split
   ·exact Rd.many_ok (λ_ h=>Rd.range_ok _ _ h) _ h4
   ·exact Rd.many_ok (λ_ h=>Rd.range_ok _ _ h) _ (Rd.n_ok 3 h4)
def Rd.port(classes:Int)(s:Rd):Line×Rd :=
 if classes=1 then
  if 0<((s.range 4 24).2.n 3).1 then(⟨1,(s.range 4 24).1,classes,[],[]⟩,((s.range 4 24).2.n 3).2)
  else((s.range 4 24).2.n 3).2.port2 (s.range 4 24).1 classes
 else(s.range 4 24).2.port2 (s.range 4 24).1 classes
theorem Rd.port_ok{s:Rd}(classes:Int)(h:s.ok):(s.port classes).2.ok:=by
 unfold Rd.port;have h4:=s.range_ok 4 24 h;split
 ·split
  ·exact Rd.n_ok 3 h4
  ·exact Rd.port2_ok _ _ (Rd.n_ok 3 h4)
 ·exact Rd.port2_ok _ _ h4
theorem Bo(s:Rd)(hs:s.ok)(classes:Int)(h0:1<=classes)(h1:classes<=6):q0c 19 [.lptr 900 0,J classes] [(900,s.ob)] (s.port classes).1.av [(900,(s.port classes).2.ob)]:=by
 have h2:=s.range_ok 4 24 hs;refine opG func19 ntmps19 results19 (λw0 Im0 ρ0=>?_) (hcl:=⟨rfl,rfl,rfl,bD rfl,bD rfl,rfl⟩);repeat'(first|(rw[show s.port classes=((s.range 4 24).2.n 3).2.port2 (s.range 4 24).1 classes from(if_pos ‹classes=1›).trans (if_neg ‹¬0<((s.range 4 24).2.n 3).1›)];refine aQ [5,4,1,0] [4,900,5] [] [] [] ⟨⟨rfl,rfl⟩,?_,?_⟩ (q8 w0 Im0 ρ0 _ (Rd.n_ok 3 h2) (s.range 4 24).1 classes h0 h1))|(rw[show s.port classes=(s.range 4 24).2.port2 (s.range 4 24).1 classes from if_neg ‹¬classes=1›];refine aQ [5,4,1,0] [4,900,5] [] [] [] ⟨⟨rfl,rfl⟩,?_,?_⟩ (q8 w0 Im0 ρ0 _ h2 (s.range 4 24).1 classes h0 h1))|refine' fX|refine bT (fA _ hs 4 24 ω ω ω) ?_|refine bT (mK _ h2 3 υ) ?_)
 all_goals try refine' subB
 ·rw[show s.port classes=_ from(if_pos ‹classes=1›).trans (if_pos ‹0<((s.range 4 24).2.n 3).1›)];exact AvLe.agg (.cons Ψ (.cons Ψ (.cons Ψ (.cons AvLe.nils (.cons AvLe.nils .nil)))))
 ·rw[show s.port classes=_ from(if_pos ‹classes=1›).trans (if_pos ‹0<((s.range 4 24).2.n 3).1›)];rfl
theorem wq{s s':Rd}{k v:Int}(e:s.n k=(v,s'))(hs:s.ok)(hk:ah k):q0c 36 [.lptr 900 0,J k] [(900,s.ob)] (J v) [(900,s'.ob)]:=by
 have h:=mK s hs k hk;rw[e]at h;exact h
theorem fI{s s':Rd}{lo hi v:Int}(e:s.range lo hi=(v,s'))(hs:s.ok)(h1:-1000000<=lo)(h2:lo<=hi)(h3:hi<=1000000):q0c 18 [.lptr 900 0,J lo,J hi] [(900,s.ob)] (J v) [(900,s'.ob)]:=by
 have h:=fA s hs lo hi h1 h2 h3;rw[e]at h;exact h
theorem zL{s s':Rd}{l:List Int}{v:Int}(e:s.pick l=(v,s'))(hs:s.ok)(hl:0<l.length)(hl2:l.length<=2000):q0c 38 [.lptr 900 0,ints l] [(900,s.ob)] (J v) [(900,s'.ob)]:=by
 have h:=tS s hs l hl hl2;rw[e]at h;exact h
theorem pU{s s':Rd}{c:Curve}(e:s.contract=(c,s'))(hs:s.ok):q0c 37 [.lptr 900 0] [(900,s.ob)] c.av [(900,s'.ob)]:=by
 have h:=rO s hs;rw[e]at h;exact h
theorem n_in{s s':Rd}{k v:Int}(e:s.n k=(v,s'))(h:0<k):0<=v/\v<k:=by
 have h1:=mod_lt (x:=s.raw.1) h;have:(s.n k).1=v:=by rw[e]
 rw[<-this];exact h1
theorem bX{s s':Rd}{lo hi v:Int}(e:s.range lo hi=(v,s'))(h:lo<=hi):lo<=v/\v<=hi:=by
 have h1:=mod_lt (x:=s.raw.1) (n:=hi-lo+1) ω;have:lo+mod s.raw.1 (hi-lo+1)=v:=by
  have:=congrArg Prod.fst e;exact this
 omega
theorem Rd.ok_of{α:Type}{p:α×Rd}{v:α}{s':Rd}(e:p=(v,s'))(h:p.2.ok):s'.ok:=by rw[e]at h;exact h
def hops(at_ step n:Int):Nat->List Int×Int
 |0=>([],at_)
 |j+1=>((hops at_ step n j).1++[(hops at_ step n j).2],mod ((hops at_ step n j).2+step) n)
theorem xN(at_ step n:Int):∀j:Nat,j=(hops at_ step n j).1.length
 |0=>rfl
 |j+1=>by simp only[hops,List.length_append,List.length_singleton];rw[<-xN at_ step n j]
theorem GD{at_ step n:Int}(h:0<=at_/\at_<n):∀j:Nat,0<=(hops at_ step n j).2/\(hops at_ step n j).2<n
 |0=>h
 |j+1=>mod_lt ω
def ij(l:List Int):List Int:=if 1<l.length/\l.getD 0 0=l.getD 1 0 then l.take 1 else l
def Rd.flow(n:Nat)(name:ByteArray)(classes:Int)(s:Rd):Flow×Rd :=
 let c:=s.n classes
 let k:=c.2.contract
 let a:=k.2.range 1 3
 let b:=a.2.n 5
 let w:=b.2.n n
 let t:=w.2.pick [1,(n:Int)-1]
 let h:=t.2.range 1 (min 3 (n:Int))
 (⟨name,ij (hops w.1 t.1 n h.1.toNat).1,c.1,a.1,a.1+b.1,k.1⟩,h.2)
theorem Bp(s : Rd)(hs:s.ok)(n:Nat)(g:Nat->List AV)(name:ByteArray)(classes:Int)(hn:1<=n)(hn2:n<=100)(h0:1<=classes)(h1:classes<=6) :
  q0c 20 [.lptr 900 0,.agg [.junk,.isl n 5 g,.junk],.str name,J classes] [(900,s.ob)] (s.flow n name classes).1.av [(900,(s.flow n name classes).2.ob)]:=by
 obtain⟨c,s1,e1⟩:∃c s1,s.n classes=(c,s1):=⟨_,_,rfl⟩;obtain⟨k,s2,e2⟩:∃k s2,s1.contract=(k,s2):=⟨_,_,rfl⟩;obtain⟨a,s3,e3⟩:∃a s3,s2.range 1 3=(a,s3):=⟨_,_,rfl⟩;obtain⟨b,s4,e4⟩:∃b s4,s3.n 5=(b,s4):=⟨_,_,rfl⟩;obtain⟨w,s5,e5⟩:∃w s5,s4.n n=(w,s5):=⟨_,_,rfl⟩;obtain⟨t,s6,e6⟩:∃t s6,s5.pick [1,(n:Int)-1]=(t,s6):=⟨_,_,rfl⟩;obtain⟨h,s7,e7⟩:∃h s7,s6.range 1 (min 3 (n:Int))=(h,s7):=⟨_,_,rfl⟩;have o1:=Rd.ok_of e1 (s.n_ok classes hs);have o2:=Rd.ok_of e2 (Rd.contract_ok o1);have o3:=Rd.ok_of e3 (Rd.range_ok 1 3 o2);have o4:=Rd.ok_of e4 (Rd.n_ok 5 o3);have o5:=Rd.ok_of e5 (Rd.n_ok n o4);have o6:=Rd.ok_of e6 (Rd.pick_ok _ o5);have m3:=bX e3 ω;have m4:=n_in e4 ω;have m5:=n_in e5 ω;have m7:=bX e7 ω;have m6:t=1\/t=(n:Int)-1:=by
  have:=nc (l:=[1,(n:Int)-1]) η s5;rw[e6]at this;simpa using this
 have e:s.flow n name classes=(⟨name,ij (hops w t n h.toNat).1,c,a,a+b,k⟩,s7):=by
  simp only[Rd.flow,e1,e2,e3,e4,e5,e6,e7]
 rw[e];have ln:=xN w t n;have hl:=GD (step:=t) m5;refine opG func20 ntmps20 results20 (λw0 Im0 ρ0=>?_) (hcl:=⟨rfl,rfl,rfl,bD rfl,bD rfl,rfl⟩);repeat'(first|refine' fX|refine bT (wq e1 hs υ) ?_|refine bT (pU e2 o1) ?_|refine bT (fI e3 o2 ω ω ω) ?_|refine bT (wq e4 o3 υ) ?_|refine bT (wq e5 o4 υ) ?_|refine bT (fI e7 o6 ω ω ω) ?_|(refine qw [.lptr 900 0] [] (zL e6 o5 η η) rfl rfl rfl (ξ _) ?_ ?_ ?_;rotate_left;rotate_left;conv=>whnf))
 all_goals try exact υ
 all_goals try exact aK (by repeat'(first|exact True.intro|rfl|refine And.intro ?_ ?_))
 refine ⟨fH 9 1 100 1 3 rfl rfl rfl rfl (aD (ι:={j:Nat//(j:Int)<=h}) [5,8,9,11] [5,8,900] [] ⟨0,ω⟩ (fun j=>h.toNat-j.1) (fun j=>[(10,J (hops w t n j.1).2),(12,J (h-j.1))])
  (λj=>[(9,some (.box [.str name,.osl 100 j.1,J c,J a,J (a+b),ints k.vals,J k.per,J k.inc])),(100,some (.arr j.1 1 (eget encI 0 (hops w t n j.1).1) 3))]) ?_ ?_).good⟩
 ·refine⟨⟨rfl,rfl⟩,?_,?_⟩;all_goals try refine' subB
  all_goals exact q0b rfl (ν)
 ·intro j;conv=>whnf
  have hj:=j.2;have lj:=ln j.1;have hj2:=hl j.1;repeat'(first|refine' gO|(refine bE [8] [8,100,900] [] [] [] ⟨⟨rfl,rfl⟩,?_,?_⟩ (co 100 rfl rfl (λ_ _=>rfl) ?_ ?_ (iT ?_ ?_)))|refine ab (xF _ _ υ) ?_|(refine aE [(100,58)] ⟨j.1+1,?_⟩ ⟨⟨rfl,rfl⟩,?_,?_⟩ ?_))
  all_goals try refine' subB
  all_goals try exact υ
  all_goals try omega
  all_goals try(refine q0b rfl λi hi=>bW encI 0 _ _ lj i hi _ λe=>?_;subst e;simp;rfl)
  all_goals try(show(_:Nat)<_;dsimp only;omega)
  all_goals try(exactλi _=>⟨trivial,trivial⟩)
  all_goals try (intro k hk;have:k=0:=ω
                 subst this;rfl)
  all_goals try exact ξ j.1
  all_goals try (show Int.toNat 1<=j.1;have:Int.toNat 1=1:=rfl
                 omega)
  all_goals try rfl
  all_goals have ej:h.toNat=j.1:=ω
  all_goals try (have hc:ij (hops w t n j.1).1=(hops w t n j.1).1.take 1:=if_pos ⟨ω,‹(hops w t n j.1).1.getD (Int.toNat 0) 0=(hops w t n j.1).1.getD (Int.toNat 1) 0›⟩
                 rw[ej,hc];refine AvLe.agg (.cons Ψ (.cons (Γ ?_ λi hi=>?_) (.cons Ψ (.cons Ψ (.cons Ψ (.cons Ψ (.cons Ψ (.cons Ψ .nil))))))))
                 ·rw[List.length_take];have:Int.toNat 1=1:=rfl;omega
                 ·have : i = 0 := by have:Int.toNat 1 = 1:=rfl
                                     omega
                  subst this;simp[eget,encI])
  all_goals try (have hc:ij (hops w t n j.1).1=(hops w t n j.1).1:=if_neg (by first|(intro hx;omega)|exact fun hx=>‹¬(hops w t n j.1).1.getD (Int.toNat 0) 0=(hops w t n j.1).1.getD (Int.toNat 1) 0› hx.2)
                 rw[ej,hc];exact AvLe.agg (.cons Ψ (.cons (Γ lj λi hi=>rfl) (.cons Ψ (.cons Ψ (.cons Ψ (.cons Ψ (.cons Ψ (.cons Ψ .nil)))))))))
def b1(n:UInt8):ByteArray:=⟨#[n]⟩
def kD:Nat->ByteArray
 |0=>b1 97
 |1=>b1 98
 |2=>b1 99
 |_=>b1 100
def cZ:Nat->ByteArray
 |0=>b1 102
 |1=>b1 103
 |2=>b1 104
 |3=>b1 105
 |_=>b1 106
def b8:Nat->List ByteArray
 |0=>[]
 |n+1=>b8 n++[kD n]
theorem ik:∀n,n=(b8 n).length
 |0=>rfl
 |n+1=>by simp only[b8,List.length_append,List.length_singleton];rw[<-ik n]
def Rd.lines(k:Int):Nat->Rd->List Line×Rd
 |0,s=>([],s)
 |n+1,s=>((Rd.lines k n s).1++[((Rd.lines k n s).2.port k).1],((Rd.lines k n s).2.port k).2)
def Rd.flows(m:Nat)(k:Int):Nat->Rd->List Flow×Rd
 |0,s=>([],s)
 |n+1,s=>((Rd.flows m k n s).1++[((Rd.flows m k n s).2.flow m (cZ n) k).1],((Rd.flows m k n s).2.flow m (cZ n) k).2)
theorem Rd.lines_len(k:Int)(s:Rd):∀n,n=(Rd.lines k n s).1.length
 |0=>rfl
 |n+1=>by simp only[Rd.lines,List.length_append,List.length_singleton];rw[<-Rd.lines_len k s n]
theorem Rd.flows_len(m:Nat)(k:Int)(s:Rd):∀n,n=(Rd.flows m k n s).1.length
 |0=>rfl
 |n+1=>by simp only[Rd.flows,List.length_append,List.length_singleton];rw[<-Rd.flows_len m k s n]
theorem Rd.lines_ok(k:Int){s:Rd}(h:s.ok):∀n,(Rd.lines k n s).2.ok
 |0=>h
 |n+1=>Rd.port_ok k (Rd.lines_ok k h n)
theorem Rd.flow_ok{s:Rd}(n:Nat)(name:ByteArray)(classes:Int)(h:s.ok):(s.flow n name classes).2.ok:=by
 obtain⟨c,s1,e1⟩:∃c s1,s.n classes=(c,s1):=⟨_,_,rfl⟩;obtain⟨k,s2,e2⟩:∃k s2,s1.contract=(k,s2):=⟨_,_,rfl⟩;obtain⟨a,s3,e3⟩:∃a s3,s2.range 1 3=(a,s3):=⟨_,_,rfl⟩;obtain⟨b,s4,e4⟩:∃b s4,s3.n 5=(b,s4):=⟨_,_,rfl⟩;obtain⟨w,s5,e5⟩:∃w s5,s4.n n=(w,s5):=⟨_,_,rfl⟩;obtain⟨t,s6,e6⟩:∃t s6,s5.pick [1,(n:Int)-1]=(t,s6):=⟨_,_,rfl⟩;obtain⟨d,s7,e7⟩:∃d s7,s6.range 1 (min 3 (n:Int))=(d,s7):=⟨_,_,rfl⟩;have o1:=Rd.ok_of e1 (s.n_ok classes h);have o2:=Rd.ok_of e2 (Rd.contract_ok o1);have o3:=Rd.ok_of e3 (Rd.range_ok 1 3 o2);have o4:=Rd.ok_of e4 (Rd.n_ok 5 o3);have o5:=Rd.ok_of e5 (Rd.n_ok n o4);have o6:=Rd.ok_of e6 (Rd.pick_ok _ o5);have o7:=Rd.ok_of e7 (Rd.range_ok _ _ o6);simp only[Rd.flow,e1,e2,e3,e4,e5,e6,e7];exact o7
theorem Rd.flows_ok(m:Nat)(k:Int){s:Rd}(h:s.ok)(n:Nat):(Rd.flows m k n s).2.ok:=by
 induction n with
 |zero=>exact h
 |succ n ih=>
  simp only[Rd.flows];exact Rd.flow_ok m _ k ih
def Rd.net(lines flows:Int)(s:Rd):Net×Rd :=
 let k:=s.range 1 2
 let c:=k.2.range 1 lines
 let l:=Rd.lines k.1 c.1.toNat c.2
 let e:=l.2.range 0 flows
 let f:=Rd.flows c.1.toNat k.1 e.1.toNat e.2
 (⟨b8 c.1.toNat,l.1,f.1⟩,f.2)
theorem Ev(s:Rd)(hs:s.ok)(lines flows:Int)(h0:1<=lines)(h1:lines<=4)(h2:0<=flows)(h3:flows<=5) :
  q0c 7 [.lptr 900 0,J lines,J flows] [(900,s.ob)] (s.net lines flows).1.av [(900,(s.net lines flows).2.ob)]:=by
 obtain⟨k,s1,e1⟩:∃k s1,s.range 1 2=(k,s1):=⟨_,_,rfl⟩;obtain⟨c,s2,e2⟩:∃c s2,s1.range 1 lines=(c,s2):=⟨_,_,rfl⟩;obtain⟨l,s3,e3⟩:∃l s3,Rd.lines k c.toNat s2=(l,s3):=⟨_,_,rfl⟩;obtain⟨e,s4,e4⟩:∃e s4,s3.range 0 flows=(e,s4):=⟨_,_,rfl⟩;have m1:=bX e1 ω;have m2:=bX e2 ω;have m4:=bX e4 ω;have o1:=Rd.ok_of e1 (Rd.range_ok 1 2 hs);have o2:=Rd.ok_of e2 (Rd.range_ok 1 lines o1);have ol:=Rd.lines_ok k o2;have o3:=Rd.ok_of e3 (ol c.toNat);have o4:=Rd.ok_of e4 (Rd.range_ok 0 flows o3);have er:s.net lines flows=(⟨b8 c.toNat,l,(Rd.flows c.toNat k e.toNat s4).1⟩,(Rd.flows c.toNat k e.toNat s4).2):=by
  simp only[Rd.net,e1,e2,e3,e4]
 rw[er];refine opG func7 ntmps7 results7 (λw0 Im0 ρ0=>?_) (hcl:=⟨rfl,rfl,rfl,bD rfl,bD rfl,rfl⟩);repeat'(first|refine' fX|refine bT (fI e1 hs ω ω ω) ?_|refine bT (fI e2 o1 ω ω ω) ?_)
 refine ⟨fH 7 0 100 1 9 rfl rfl rfl rfl (fH 7 1 101 5 62 rfl rfl rfl rfl (aD (ι:={j:Nat//(j:Int)<=c}) [0,2,6,7,8] [6] [] ⟨0,ω⟩ (fun j=>c.toNat-j.1) (fun j=>[(9,J (c-j.1))])
  (λj=>[(7,some (.box [.osl 100 j.1,.osl 101 j.1,.nils])),(100,some (.arr j.1 1 (eget encS .empty (b8 j.1)) 9)),(101,some (.arr j.1 5 (eget Line.cells default (Rd.lines k j.1 s2).1) 62)),(900,some (Rd.lines k j.1 s2).2.ob)]) ?_ ?_).good)⟩
 ·refine⟨⟨rfl,rfl⟩,?_,?_⟩;all_goals try refine' subB
  all_goals first|exact q0b rfl (ν)
 ·intro j;conv=>whnf
  have lj:=ik j.1;have lk:=Rd.lines_len k s2 j.1;have oj:=ol j.1;obtain⟨j,hj⟩:=j;dsimp only at lj lk oj;obtain⟨p,s5,e5⟩:∃p s5,(Rd.lines k j s2).2.port k=(p,s5):=⟨_,_,rfl⟩;have pj:q0c 19 [.lptr 900 0,J k] [(900,(Rd.lines k j s2).2.ob)] p.av [(900,s5.ob)]:=by
   have h:=Bo _ oj k ω ω;rw[e5]at h;exact h
  have en:Rd.lines k (j+1) s2=((Rd.lines k j s2).1++[p],s5):=by simp only[Rd.lines,e5]
  have rj:¬(0<c-(j:Int))->q0c 18 [.lptr 900 0,J 0,J flows] [(900,(Rd.lines k j s2).2.ob)] (J e) [(900,s4.ob)]:=by
   intro h7;have h8:j=c.toNat:=ω;rw[h8,e3];exact fI e4 o3 ω ω ω
  repeat'(first|(refine VCells.mk ⟨[.str (kD j)],by(have h7:=‹0<c-(_:Int)›;dsimp only at h7;rcases(ω:j=0\/j=1\/j=2\/j=3)with h6|h6|h6|h6<;>subst h6<;>rfl),?_⟩;conv=>whnf)|refine' fX|refine bT pj ?_|refine bT (rj ‹_›) ?_|(refine aE [(100,30),(101,38)] ⟨j+1,?_⟩ ⟨⟨rfl,rfl⟩,?_,?_⟩ ?_))
  all_goals try refine' subB
  all_goals try(have h7:=‹0<c-(_:Int)›;dsimp only at h7;first|exact ariA|(dsimp only;omega))
  all_goals try(refine q0b rfl λi hi=>bW encS _ _ _ lj i hi _ λe=>?_;subst e;simp;rfl)
  all_goals try(show ObLe _ (reO _ (.arr (j+1) 5 (eget Line.cells default (Rd.lines k (j+1) s2).1) 62));rw[en];refine q0b rfl λi hi=>bW Line.cells _ _ _ lk i hi _ λe=>?_;subst e;simp;rfl)
  all_goals try(show ObLe _ (reO _ (Rd.lines k (j+1) s2).2.ob);rw[en];exact q0a)
  all_goals try (intro q hq;have h9:q=0:=ω
                 subst h9;rfl)
  all_goals try(have h7:=‹0<c-(_:Int)›;dsimp only at h7;rcases(ω:j=0\/j=1\/j=2\/j=3)with h6|h6|h6|h6<;>subst h6<;>dsimp only<;>decide)
  have hb':¬(0<c-(j:Int)):=by assumption
  have ej:c.toNat=j:=ω;subst ej;rw[e3]at lk;dsimp only at lk;have ln:=Rd.flows_len c.toNat k s4;have fo:=Rd.flows_ok c.toNat k o4;refine⟨fH 7 2 102 8 69 rfl rfl rfl rfl ?_⟩;refine aQ [0,2,6,7,8,10] [6,7,100,101,102,900] [] [] [] ⟨⟨rfl,rfl⟩,?_,?_⟩ ?_;all_goals try refine' subB
  conv=>whnf
  refine j4 100 rfl rfl (λ_ _=>rfl) ?_ ?_ ?_;rotate_left;rotate_left;refine j4 101 rfl rfl (λ_ _=>rfl) ?_ ?_ ?_;rotate_left;rotate_left;refine aQ [] [] [] [(0,.lptr 900 0),(6,.lptr 6 0),(7,.lptr 7 0),(8,J k),(10,J e)] [(6,some (.box ti28.zero)),(7,some (.box [.isl c.toNat 1 (eget encS .empty (b8 c.toNat)),.isl c.toNat 5 (eget Line.cells default (Rd.lines k c.toNat s2).1),.osl 102 0])),(102,some (.arr 0 8 (λ_=>[]) 69)),(900,some s4.ob)] ⟨⟨rfl,rfl⟩,?_,?_⟩ ?_;rotate_left;rotate_left;conv=>whnf
  refine (aD (ι:={i:Nat//(i:Int)<=e}) [0,6,7,8] [6] [] ⟨0,ω⟩ (fun i=>e.toNat-i.1) (fun i=>[(10,J (e-i.1))])
   (λi=>[(7,some (.box [.isl c.toNat 1 (eget encS .empty (b8 c.toNat)),.isl c.toNat 5 (eget Line.cells default (Rd.lines k c.toNat s2).1),.osl 102 i.1])),(102,some (.arr i.1 8 (eget Flow.cells default (Rd.flows c.toNat k i.1 s4).1) 69)),(900,some (Rd.flows c.toNat k i.1 s4).2.ob)]) ?_ ?_).good
  ·refine⟨⟨rfl,rfl⟩,?_,?_⟩;all_goals try refine' subB
   all_goals try exact q0b rfl (ν)
  ·intro i;conv=>whnf
   have li:=ln i.1;have oi:=fo i.1;obtain⟨i,hi⟩:=i;dsimp only at li oi;obtain⟨fl,s6,e6⟩:∃fl s6,(Rd.flows c.toNat k i s4).2.flow c.toNat (cZ i) k=(fl,s6):=⟨_,_,rfl⟩;have en2:Rd.flows c.toNat k (i+1) s4=((Rd.flows c.toNat k i s4).1++[fl],s6):=by simp only[Rd.flows,e6]
   have pf:q0c 20 [.lptr 900 0,.agg [.isl c.toNat 1 (eget encS .empty (b8 c.toNat)),.isl c.toNat 5 (eget Line.cells default (Rd.lines k c.toNat s2).1),.osl 102 i],.str (cZ i),J k] [(900,(Rd.flows c.toNat k i s4).2.ob)] fl.av [(900,s6.ob)]:=by
    have h:=Bp _ oi c.toNat (eget Line.cells default (Rd.lines k c.toNat s2).1) (cZ i) k ω ω ω ω;rw[e6]at h;exact CallSpec.arg (.cons Ψ (.cons (AvLe.agg (.cons AvLe.junk (.cons Ψ (.cons AvLe.junk .nil)))) (.cons Ψ (.cons Ψ .nil)))) h
   repeat'(first|(refine VCells.mk ⟨[.str (cZ i)],?_,?_⟩;rotate_left;conv=>whnf)|refine' gO|(refine bE [6] [6,102,900] [] [] [] ⟨⟨rfl,rfl⟩,?_,?_⟩ (co 102 rfl rfl (λ_ _=>rfl) ?_ ?_ (iT ?_ ?_)))|refine bT pf ?_|(refine aE [(102,61)] ⟨i+1,?_⟩ ⟨⟨rfl,rfl⟩,?_,?_⟩ ?_))
   ·dsimp only at hb;omega
   ·clear pf;all_goals repeat'(first|exact True.intro|refine And.intro ?_ ?_)
    ·rfl
    ·conv=>whnf
     exact q0a
    ·rfl
    ·conv=>whnf
     exact q0a
    ·exactλ_ _=>rfl
    ·conv=>whnf
     show ObLe _ (reO _ (.arr (i+1) 8 (eget Flow.cells default (Rd.flows c.toNat k (i+1) s4).1) 69));rw[en2];refine q0b rfl λq hq=>bW Flow.cells _ _ _ li q hq _ λe=>?_;subst e;simp;rfl
    ·rfl
    ·conv=>whnf
     show ObLe _ (reO _ (Rd.flows c.toNat k (i+1) s4).2.ob);rw[en2];exact q0a
   ·clear pf;all_goals repeat'(first|exact True.intro|refine And.intro ?_ ?_)
    all_goals first
     |rfl
     | (conv=>whnf
        first|exact Ψ|(refine Ξ ?_;dsimp only;omega))
   ·dsimp only at hb⊢;omega
   ·dsimp only at hb⊢;unfold ah;omega
   ·refine⟨ξ _,by dsimp only at hb⊢;omega,λq hq=>?_⟩;have h9:q=0:=ω;subst h9;rfl
   ·exact ξ _
   ·dsimp only at hb⊢;clear pf en2 e6 oi li;rcases(ω:i=0\/i=1\/i=2\/i=3\/i=4)with h6|h6|h6|h6|h6<;>subst h6<;>rfl
   ·dsimp only at hb⊢;clear pf en2 e6 oi li;rcases(ω:i=0\/i=1\/i=2\/i=3\/i=4)with h6|h6|h6|h6|h6<;>subst h6<;>decide
   ·dsimp only at hb⊢;clear pf en2 e6 oi li;rcases(ω:i=0\/i=1\/i=2\/i=3\/i=4)with h6|h6|h6|h6|h6<;>subst h6<;>decide
   ·decide
   ·all_goals try refine' subB
   ·all_goals try refine' subB
   ·all_goals try refine' frzZ
   ·all_goals try refine' frzZ
   ·have ei:e.toNat=i:=by dsimp only at hb;omega
    conv=>whnf
    show AvLe (.agg [.isl c.toNat 1 (eget encS .empty (b8 c.toNat)),.isl c.toNat 5 (eget Line.cells default (Rd.lines k c.toNat s2).1),.isl i 8 (eget Flow.cells default (Rd.flows c.toNat k i s4).1)]) (.agg [slc 1 encS .empty (b8 c.toNat),slc 5 Line.cells default l,slc 8 Flow.cells default (Rd.flows c.toNat k e.toNat s4).1]);rw[ei,e3];exact AvLe.agg (.cons (Γ lj λ_ _=>rfl) (.cons (Γ lk λ_ _=>rfl) (.cons (Γ li λ_ _=>rfl) .nil)))
   ·have ei:e.toNat=i:=by dsimp only at hb;omega
    rw[ei];rfl
  all_goals try refine' frzZ
  all_goals try refine' subB
def xO:List Int:=[0,1,2,3,4,6,9,14,-1]
def Rd.row:Nat->Rd->List Int×Rd
 |0,s=>([],s)
 |k+1,s=>((Rd.row k s).1++[((Rd.row k s).2.pick xO).1],((Rd.row k s).2.pick xO).2)
def Rd.rows(ls:List Line):Nat->Rd->Xa×Rd
 |0,s=>([],s)
 |j+1,s=>((Rd.rows ls j s).1++[((Rd.rows ls j s).2.row (ls.getD j default).classes.toNat).1],((Rd.rows ls j s).2.row (ls.getD j default).classes.toNat).2)
def Rd.delays(ls:List Line)(s:Rd):Xa×Rd:=Rd.rows ls ls.length s
theorem aW{b n:Nat}{g:Nat->List AV}(h:n+1<=1099511627776)(h1:fD (g 0)=true):pQ b n 1 g:=by
 refine⟨.inl h,λq hq=>?_⟩;have:q=0:=ω;rw[this];exact h1
theorem tV{id:Nat}{ob:LObj}{c:Bool}{a b:List AV}(h1:frzCL id ob a)(h2:c=false->frzCL id ob b):frzCL id ob (bif c then a else b):=by
 cases c with
 |true=>exact h1
 |false=>exact h2 rfl
theorem baLen(bs:ByteArray):bs.data.toList.length=bs.size:=Array.length_toList
theorem wr(bs:ByteArray):∀(k i:Nat) (r:List UInt8),bs.size-i=k->ByteArray.toList.loop bs i r=r.reverse++(bs.data.toList.drop i)
 |0,i,r,h=>by
  unfold ByteArray.toList.loop;rw[if_neg ω];rw[List.drop_eq_nil_of_le (by have:=baLen bs;omega),List.append_nil]
 |k+1,i,r,h=>by
  have hl:=baLen bs;unfold ByteArray.toList.loop;rw[if_pos ω,wr bs k (i+1) _ ω];rw[List.drop_eq_getElem_cons (i:=i) ω];have e:bs.get! i=bs.data.toList[i]'ω:=by
   show bs.data[i]! =_;rw[getElem!_pos bs.data i (by have:bs.data.size=bs.size:=rfl;omega),Array.getElem_toList]
  rw[e,List.reverse_cons,List.append_assoc];rfl
theorem nQ(a b:ByteArray)(h:a.toList=b.toList):a=b:=by
 unfold ByteArray.toList at h;rw[wr a a.size 0 [] rfl,wr b b.size 0 [] rfl]at h;simp only[List.reverse_nil,List.nil_append,List.drop_zero]at h;exact ByteArray.ext (Array.ext' h)
def okB(c:Nat):Prop:=c=45\/(48<=c/\c<=57)\/(97<=c/\c<=122)
structure WordP(s:ByteArray):Prop where
 len:1<=s.size/\s.size<=12
 first:97<=(s.get! 0).toNat/\(s.get! 0).toNat<=122
 rest:∀i,i<s.size->okB (s.get! i).toNat
theorem Bq{s:ByteArray}(h:0<s.size):(s.toList==ByteArray.toList ⟨#[]⟩)=false:=by
 cases hb:(s.toList==ByteArray.toList ⟨#[]⟩)with
 |false=>rfl
 |true=>
  have e:=nQ _ _ (eq_of_beq hb);rw[e]at h;exact absurd h φ
set_option maxRecDepth 4000 in
theorem Br{s:ByteArray}(h:WordP s):q0d 95 [.str s] (.bool true):=by
 suffices hh:∃b:Bool,b=true/\q0d 95 [.str s] (.bool b) by obtain⟨_,rfl,p⟩:=hh;exact p
 have hl:=h.len;have f1:=h.first;have hz:=Bq (s:=s) ω;have e0:s.get! (Int.toNat 0)=s.get! 0:=rfl;refine opE func95 ntmps95 results95 ?_;repeat'(first|(refine aH (λhb=>absurd hb (λe=>Bool.noConfusion (hz.symm.trans e))) (λhb=>?_);conv=>whnf)|refine' ag|fail)
 all_goals try first|exact ariA|(rw[e0]at *;exfalso;omega)
 refine ae (ι:={j:Nat//1<=j/\j<=s.size}) [0,2] [] [] ⟨1,ξ _,hl.1⟩ (λ⟨j,_⟩=>s.size-j) (λ⟨j,_⟩=>[(3,J j)]) (λ_=>[]) ?_ ?_
 ·exact⟨⟨rfl,rfl⟩,sq1,sq1⟩
 ·rintro⟨j,hj1,hj⟩;conv=>whnf
  by_cases hjl:(j:Int)<s.size
  ·obtain⟨c,ec⟩:∃c:Nat,c=(s.get! (j:Int).toNat).toNat:=⟨_,rfl⟩;have hk:okB c:=ec▸h.rest j ω;unfold okB at hk;repeat'(first|(refine Λ hjl λhb=>?_;conv=>whnf)|(exact aL [] ⟨j+1,ω,ω⟩)|refine' ag|fail)
   all_goals try first|exact ariA|(rw[<-ec]at *;exfalso;omega)
  ·skip;repeat'(first|(refine Υ hjl λhb=>?_;conv=>whnf)|refine' ag|fail)
   all_goals try exact ariA
   exact ac ⟨true,rfl,rfl⟩
set_option maxRecDepth 4000 in
theorem xP{s:ByteArray}(h:WordP s):q0d 53 [.str s] (.bool true):=by
 suffices hh:∃b:Bool,b=true/\q0d 53 [.str s] (.bool b) by obtain⟨_,rfl,p⟩:=hh;exact p
 have hl:=h.len;have f1:=h.first;have e0:s.get! (Int.toNat 0)=s.get! 0:=rfl;refine opE func53 ntmps53 results53 ?_;repeat'(first|refine' ag|fail)
 all_goals try first|exact ariA|(exfalso;omega)|(rw[e0]at *;exfalso;omega)
 refine ae (ι:={j:Nat//j<=s.size}) [0,2] [] [] ⟨0,ω⟩ (λ⟨j,_⟩=>s.size-j) (λ⟨j,_⟩=>[(3,J j)]) (λ_=>[]) ?_ ?_
 ·exact⟨⟨rfl,rfl⟩,sq1,sq1⟩
 ·rintro⟨j,hj⟩;conv=>whnf
  by_cases hjl:(j:Int)<s.size
  ·obtain⟨c,ec⟩:∃c:Nat,c=(s.get! (j:Int).toNat).toNat:=⟨_,rfl⟩;have hk:okB c:=ec▸h.rest j ω;unfold okB at hk;repeat'(first|(refine Λ hjl λhb=>?_;conv=>whnf)|(exact aL [] ⟨j+1,ω⟩)|refine' ag|fail)
   all_goals try first|exact ariA|(rw[<-ec]at *;exfalso;omega)
  ·skip;repeat'(first|(refine Υ hjl λhb=>?_;conv=>whnf)|refine' ag|fail)
   all_goals try exact ariA
   exact ac ⟨true,rfl,rfl⟩
instance (c:Nat):Decidable (okB c):=by unfold okB;infer_instance
theorem xQ{k:UInt8}(h:97 <= k.toNat/\k.toNat <= 122):WordP (b1 k):=⟨⟨ξ 1,(by decide:1<=12)⟩,h,fun i hi=>by
 have hi1:i<1:=hi;obtain rfl:i=0:=ω;exact .inr (.inr h)⟩
theorem q9(i:Nat):WordP (kD i):=by
 match i with
 |0|1|2|n+3=>exact xQ φ
theorem qA(i:Nat):WordP (cZ i):=by
 match i with
 |0|1|2|3|n+4=>exact xQ φ
end Go.Nc