/- Parts. -/
import Derived.Test.YtbdkgpcdkalfdaaGreatNdEA
namespace Go.Nc
open Go.Proofs.Tryz
set_option maxHeartbeats 8000000
def J6(b:ByteArray):List AV:=[.str b]
instance:Inhabited Line:=⟨⟨0,0,0,[],[]⟩⟩
instance:Inhabited Curve:=⟨⟨[],0,0⟩⟩
instance:Inhabited Flow:=⟨⟨.empty,[],0,0,0,⟨[],0,0⟩⟩⟩
structure Net where
 names:List ByteArray
 lines:List Line
 flows:List Flow
def Net.cells(n:Net):List AV:=[slc 1 J6 .empty n.names,slc 5 Line.cells default n.lines,slc 8 Flow.cells default n.flows]
def Net.av(n:Net):AV:=.agg n.cells
def cJ(l:List Int):List AV:=[c4 l]
def aF(d:Xa):AV:=slc 1 cJ [] d
open Go.Proofs
theorem rO(b p m:Int)(H:0<=p)(c:p<=100000):q0e 78 [J b,J p,J m] (Curve.av ⟨0::List.replicate p.toNat b,p,m⟩):=by
 refine ee func78 ntmps78 results78 λw I a=>?_;repeat'(first|refine' ak|fail)
 refine aG (ι:={j:Nat//(j:Int)<=p}) [0,1,6,7] [6] [] ⟨0,H⟩ (λj=>p.toNat-j.1) (λj=>[(8,J j.1)]) (λj=>[(7,some (.box [.osl 9 (j.1+1),J p,J m])),(9,some (.arr (0::List.replicate j.1 b).length 1 (ey hP 0 (0::List.replicate j.1 b)) 3))]) ?_ ?_
 .refine⟨⟨rfl,rfl⟩,?_,?_⟩;all_goals try refine' dw
  all_goals(refine fl rfl λi h=>?_;have:i=0:=Z)
  subst this;rfl
 .intro j;conv=>whnf
  have d:=j.2;repeat'(first|refine' gi|(refine b8 [6] [6,9] [] [] [] ⟨⟨rfl,rfl⟩,?_,?_⟩ (cq 9 rfl rfl (λ_ _=>rfl) ?_ ?_ (du ?_)))|(refine aH [(9,22)] ⟨j.1+1,?_⟩ ⟨⟨rfl,rfl⟩,?_,?_⟩ ?_))
  all_goals try refine' dw
  all_goals try exact ε
  all_goals try omega
  .have e:(0::List.replicate (j.1+1) b)=(0::List.replicate j.1 b)++[b]:=by simp[List.replicate_succ']
   show ObLe _ (J2 _ (.arr (0::List.replicate (j.1+1) b).length 1 (ey hP 0 (0::List.replicate (j.1+1) b)) 3));rw[e];refine fl ν λi h=>b9 hP 0 _ b ν i h _ λe=>?_;subst e;simp;rfl
  .dsimp only;omega
  .simp
  .intro i h;have:i=0:=Z;subst this;rfl
  .exactλi _=>⟨trivial,trivial⟩
  .show j.1+1<=_;simp
  .have e:p.toNat=j.1:=Z;refine AvLe.agg (.cons (kd ?_ λi h=>?_) (.cons Θ (.cons Θ .nil)))
   .simp[e]
   .rw[e];rfl
theorem nW{l:List Int}(h:0<l.length)(s:Rd):(s.pick l).1∈l:=by
 have H:=mod_lt (x:=s.raw.1) (n:=l.length) Z;have:(KF s.raw.1 l.length).toNat<l.length:=Z;show l.getD (KF s.raw.1 l.length).toNat 0∈l;simp[this]
theorem Rd.range_ok{s:Rd}(lo H:Int)(h:s.ok):(s.range lo H).2.ok:=s.raw_ok h
theorem Rd.pick_ok{s:Rd}(l:List Int)(h:s.ok):(s.pick l).2.ok:=s.raw_ok h
def Rd.contract(s:Rd):Curve×Rd :=
 let a:=s.range 4 16
 let b:=a.2.pick [1,2,3,4,6,12]
 let c:=b.2.n 4
 (⟨0::List.replicate b.1.toNat a.1,b.1,c.1⟩,c.2)
theorem Rd.contract_ok{s:Rd}(h:s.ok):s.contract.2.ok:=Rd.n_ok 4 (Rd.pick_ok _ (Rd.range_ok _ _ h))
theorem t9(s:Rd)(h:s.ok):bx 79 [.lptr 900 0] [(900,s.ob)] s.contract.1.av [(900,s.contract.2.ob)]:=by
 have H:=nW (l:=[1,2,3,4,6,12]) ν (s.range 4 16).2;simp only[List.mem_cons,List.not_mem_nil,or_false]at H;refine ee func79 ntmps79 results79 (λw I a=>?_) (hcl:=⟨rfl,rfl,rfl,bN rfl,bN rfl,rfl⟩);repeat'(first|refine' gg|refine bT (fS s h 4 16 Z Z Z) ?_|(refine bT (lm _ (Rd.pick_ok _ (Rd.range_ok _ _ h)) 4 ε) ?_)|refine ab (rO _ _ _ Z Z) ?_|(refine mL [.lptr 900 0] [] (vy (s.range 4 16).2 (Rd.range_ok _ _ h) [1,2,3,4,6,12] ν ν) rfl rfl rfl (π _) ?_ ?_ ?_;rotate_left;rotate_left;conv=>whnf))
 .exact Θ
 .rfl
 .exact aM (by repeat'(first|exact True.intro|rfl|refine And.intro ?_ ?_))
 .exact aM (by repeat'(first|exact True.intro|rfl|refine And.intro ?_ ?_))
def Rd.many(l:List Int)(f:Rd->Int×Rd):Nat->Rd->List Int×Rd
 |0,s=>(l,s)
 |n+1,s=>((Rd.many l f n s).1++[(f (Rd.many l f n s).2).1],(f (Rd.many l f n s).2).2)
theorem Rd.many_ok{l:List Int}{f:Rd->Int×Rd}(H:∀s,s.ok->(f s).2.ok):∀(n:Nat) {s:Rd},s.ok->(Rd.many l f n s).2.ok
 |0,_,h=>h
 |n+1,_,h=>H _ (Rd.many_ok H n h)
theorem Rd.many_len{l:List Int}{f:Rd->Int×Rd}:∀(n:Nat) (s:Rd),(Rd.many l f n s).1.length=l.length+n
 |0,_=>rfl
 |n+1,s=>by simp[Rd.many,Rd.many_len n s];omega
theorem Rd.many0_len{f:Rd->Int×Rd}(n:Nat)(s:Rd):n=(Rd.many [] f n s).1.length:=by simp[Rd.many_len]
def E3:Nat->List Int
 |0=>[]
 |n+1=>E3 n++[(n:Int)]
theorem lr:∀n:Nat,(E3 n).length=n
 |0=>rfl
 |n+1=>by simp[E3,lr n]
def Rd.port2(cap C:Int)(s:Rd):Line×Rd :=
 let c:=s.n 4
 if c.1=0 then(⟨2,cap,C,[],[]⟩,c.2)
 else if c.1=1 then
  let w:=Rd.many [] (Rd.range 1 3) C.toNat c.2
  (⟨3,cap,C,w.1,[]⟩,w.2)
 else if c.1=2 then
  let w:=Rd.many [] (Rd.range 8 20) C.toNat c.2
  (⟨4,cap,C,w.1,[]⟩,w.2)
 else
  let e:=c.2.n 3
  let w:=Rd.many (E3 C.toNat) (Rd.range (-1) (C-1)) e.1.toNat e.2
  (⟨5,cap,C,[],w.1⟩,w.2)
theorem rP(w:World0)(I:Nat->Prop)(d:Loc)(s:Rd)(b:s.ok)(cap c:Int)(r:1<=c)(t:c<=6) :
  GoodS prog ⟨w,I,[900],d,85⟩ (PC (PC (PC (Nr Tryz.f45)))) ⟨[(0,.lptr 900 0),(1,J c),(4,.lptr 4 0),(5,.lptr 5 0)],[(5,some (.box [J 1,J cap,J c,.nils,.nils])),(900,some s.ob),(4,some (.box [J 0,J 0,J 0,.nils,.nils]))]⟩
   (NJ T ⟨w,I,[900],d,85⟩ [.cell 4 97] (s.port2 cap c).1.av [(900,(s.port2 cap c).2.ob)]):=by
 repeat'(first|refine' gg|refine bT (lm _ b 4 ε) ?_|(refine bT (lm _ (s.n_ok 4 b) 3 ε) ?_))
 .rw[show s.port2 cap c=(⟨2,cap,c,[],[]⟩,(s.n 4).2) by unfold Rd.port2;simp[*]];exact AvLe.agg (.cons Θ (.cons Θ (.cons Θ (.cons AvLe.nils (.cons AvLe.nils .nil)))))
 .rw[show s.port2 cap c=(⟨2,cap,c,[],[]⟩,(s.n 4).2) by unfold Rd.port2;simp[*]];rfl
 .have e : s.port2 cap c=(⟨3,cap,c,(Rd.many [] (Rd.range 1 3) c.toNat (s.n 4).2).1,[]⟩,(Rd.many [] (Rd.range 1 3) c.toNat (s.n 4).2).2):=by
   unfold Rd.port2;simp[*]
  rw[e];have H:∀n,(Rd.many [] (Rd.range 1 3) n (s.n 4).2).2.ok:=λn=>Rd.many_ok (λ_ h=>Rd.range_ok _ _ h) n (s.n_ok 4 b);refine ⟨fZ 5 3 100 1 3 rfl rfl rfl rfl (aG (ι:={j:Nat//(j:Int)<=c}) [0,1,4,5] [4] [] ⟨0,Z⟩ (fun j=>c.toNat-j.1) (fun j=>[(6,J j.1)])
   (λj=>[(5,some (.box [J 3,J cap,J c,.osl 100 j.1,.nils])),(100,some (.arr j.1 1 (ey hP 0 (Rd.many [] (Rd.range 1 3) j.1 (s.n 4).2).1) 3)),(900,some (Rd.many [] (Rd.range 1 3) j.1 (s.n 4).2).2.ob)]) ?_ ?_).good⟩
  .refine⟨⟨rfl,rfl⟩,?_,?_⟩;all_goals try refine' dw
   all_goals exact fl rfl (ψ)
  .intro j;conv=>whnf
   have f:=j.2;repeat'(first|refine' gi|(refine b8 [4] [4,100,900] [] [] [] ⟨⟨rfl,rfl⟩,?_,?_⟩ (cq 100 rfl rfl (λ_ _=>rfl) ?_ ?_ (ip ?_ ?_)))|(refine bT (fS _ (H j.1) 1 3 Z Z Z) ?_)|(refine aH [(100,67)] ⟨j.1+1,?_⟩ ⟨⟨rfl,rfl⟩,?_,?_⟩ ?_))
   all_goals try refine' dw
   all_goals try exact ε
   all_goals try omega
   all_goals try(refine fl rfl λi a=>b9 hP 0 _ _ (Rd.many0_len _ _) i a _ λe=>?_;subst e;simp;rfl)
   all_goals try(show(_:Nat)<_;dsimp only;omega)
   all_goals try(exactλi _=>⟨trivial,trivial⟩)
   all_goals try (intro i a;have:i=0:=Z
                  subst this;rfl)
   all_goals try exact π j.1
   all_goals have E:c.toNat=j.1:=Z
   all_goals rw[E]
   all_goals first|rfl|exact AvLe.agg (.cons Θ (.cons Θ (.cons Θ (.cons (kd (Rd.many0_len _ _) λi a=>rfl) (.cons AvLe.nils .nil)))))
 .have e : s.port2 cap c=(⟨4,cap,c,(Rd.many [] (Rd.range 8 20) c.toNat (s.n 4).2).1,[]⟩,(Rd.many [] (Rd.range 8 20) c.toNat (s.n 4).2).2):=by
   unfold Rd.port2;simp[*]
  rw[e];have H:∀n,(Rd.many [] (Rd.range 8 20) n (s.n 4).2).2.ok:=λn=>Rd.many_ok (λ_ h=>Rd.range_ok _ _ h) n (s.n_ok 4 b);refine ⟨fZ 5 3 100 1 3 rfl rfl rfl rfl (aG (ι:={j:Nat//(j:Int)<=c}) [0,1,4,5] [4] [] ⟨0,Z⟩ (fun j=>c.toNat-j.1) (fun j=>[(7,J j.1)])
   (λj=>[(5,some (.box [J 4,J cap,J c,.osl 100 j.1,.nils])),(100,some (.arr j.1 1 (ey hP 0 (Rd.many [] (Rd.range 8 20) j.1 (s.n 4).2).1) 3)),(900,some (Rd.many [] (Rd.range 8 20) j.1 (s.n 4).2).2.ob)]) ?_ ?_).good⟩
  .refine⟨⟨rfl,rfl⟩,?_,?_⟩;all_goals try refine' dw
   all_goals exact fl rfl (ψ)
  .intro j;conv=>whnf
   have f:=j.2;repeat'(first|refine' gi|(refine b8 [4] [4,100,900] [] [] [] ⟨⟨rfl,rfl⟩,?_,?_⟩ (cq 100 rfl rfl (λ_ _=>rfl) ?_ ?_ (ip ?_ ?_)))|(refine bT (fS _ (H j.1) 8 20 Z Z Z) ?_)|(refine aH [(100,82)] ⟨j.1+1,?_⟩ ⟨⟨rfl,rfl⟩,?_,?_⟩ ?_))
   all_goals try refine' dw
   all_goals try exact ε
   all_goals try omega
   all_goals try(refine fl rfl λi a=>b9 hP 0 _ _ (Rd.many0_len _ _) i a _ λe=>?_;subst e;simp;rfl)
   all_goals try(show(_:Nat)<_;dsimp only;omega)
   all_goals try(exactλi _=>⟨trivial,trivial⟩)
   all_goals try (intro i a;have:i=0:=Z
                  subst this;rfl)
   all_goals try exact π j.1
   all_goals have E:c.toNat=j.1:=Z
   all_goals rw[E]
   all_goals first|rfl|exact AvLe.agg (.cons Θ (.cons Θ (.cons Θ (.cons (kd (Rd.many0_len _ _) λi a=>rfl) (.cons AvLe.nils .nil)))))
 .have e : s.port2 cap c=(⟨5,cap,c,[],(Rd.many (E3 c.toNat) (Rd.range (-1) (c-1)) ((s.n 4).2.n 3).1.toNat ((s.n 4).2.n 3).2).1⟩,(Rd.many (E3 c.toNat) (Rd.range (-1) (c-1)) ((s.n 4).2.n 3).1.toNat ((s.n 4).2.n 3).2).2):=by
   unfold Rd.port2;simp[*]
  rw[e];have m:0<=((s.n 4).2.n 3).1/\((s.n 4).2.n 3).1<3:=mod_lt (x:=(s.n 4).2.raw.1) (n:=3) Z;have H:∀n,(Rd.many (E3 c.toNat) (Rd.range (-1) (c-1)) n ((s.n 4).2.n 3).2).2.ok:=λn=>Rd.many_ok (λ_ h=>Rd.range_ok _ _ h) n ((s.n 4).2.n_ok 3 (s.n_ok 4 b));refine ⟨fZ 5 4 100 1 3 rfl rfl rfl rfl (aG (ι:={j:Nat//(j:Int)<=c}) [0,1,4,5] [4,900] [] ⟨0,Z⟩ (fun j=>c.toNat-j.1) (fun j=>[(8,J j.1)])
   (λj=>[(5,some (.box [J 5,J cap,J c,.nils,.osl 100 j.1])),(100,some (.arr j.1 1 (ey hP 0 (E3 j.1)) 3))]) ?_ ?_).good⟩
  .refine⟨⟨rfl,rfl⟩,?_,?_⟩;all_goals try refine' dw
   all_goals exact fl rfl (ψ)
  .intro j;conv=>whnf
   have f:=j.2;repeat'(first|refine' ak|(refine bT (lm _ (s.n_ok 4 b) 3 ε) ?_)|(refine aH [(100,34)] ⟨j.1+1,?_⟩ ⟨⟨rfl,rfl⟩,?_,?_⟩ ?_))
   all_goals try refine' dw
   all_goals try exact ε
   all_goals try omega
   all_goals try(refine fl rfl λi a=>b9 hP 0 _ _ (lr _).symm i a _ λe=>?_;subst e;simp;rfl)
   all_goals try(show(_:Nat)<_;dsimp only;omega)
   all_goals try (intro i a;have:i=0:=Z
                  subst this;rfl)
   have E:c.toNat=j.1:=Z;rw[E]at H⊢;clear e;generalize (s.n 4).2.n 3=q at *;refine aG (ι:={i:Nat//(i:Int)<=q.1}) [0,1,4,5] [4] [] ⟨0,m.1⟩ (λi=>q.1.toNat-i.1) (λi=>[(9,J (q.1-i.1))])
    (λi=>[(5,some (.box [J 5,J cap,J c,.nils,.osl 100 (j.1+i.1)])),(100,some (.arr (j.1+i.1) 1 (ey hP 0 (Rd.many (E3 j.1) (Rd.range (-1) (c-1)) i.1 q.2).1) 3)),(900,some (Rd.many (E3 j.1) (Rd.range (-1) (c-1)) i.1 q.2).2.ob)]) ?_ ?_
   .refine⟨⟨rfl,rfl⟩,?_,?_⟩;all_goals try refine' dw
   .intro i;conv=>whnf
    have a:=i.2;have p:q.1<3:=m.2;have l:j.1+i.1=(Rd.many (E3 j.1) (Rd.range (-1) (c-1)) i.1 q.2).1.length:=by rw[Rd.many_len,lr]
    repeat'(first|refine' gi|(refine b8 [4] [4,100,900] [] [] [] ⟨⟨rfl,rfl⟩,?_,?_⟩ (cq 100 rfl rfl (λ_ _=>rfl) ?_ ?_ (ip ?_ ?_)))|(refine bT (fS _ (H i.1) (-1) (c-1) Z Z Z) ?_)|(refine aH [(100,49)] ⟨i.1+1,?_⟩ ⟨⟨rfl,rfl⟩,?_,?_⟩ ?_))
    all_goals try refine' dw
    all_goals try exact ε
    all_goals try omega
    all_goals try(refine fl (Nat.add_assoc _ _ _) λk g=>b9 hP 0 _ _ l k g _ λe=>?_;subst e;simp;rfl)
    all_goals try(show(_:Nat)<_;dsimp only;omega)
    all_goals try(exactλi _=>⟨trivial,trivial⟩)
    all_goals try (intro k g;have:k=0:=Z
                   subst this;rfl)
    all_goals try exact π _
    all_goals try (have o:q.1.toNat=i.1:=Z
                   rw[o])
    all_goals try first|rfl|exact AvLe.agg (.cons Θ (.cons Θ (.cons Θ (.cons AvLe.nils (.cons (kd l λi a=>rfl) .nil)))))
theorem Rd.port2_ok{s:Rd}(cap c:Int)(h:s.ok):(s.port2 cap c).2.ok:=by
 unfold Rd.port2;dsimp only;have H:=s.n_ok 4 h;split
 .exact H
 .split
  .exact Rd.many_ok (λ_ h=>Rd.range_ok _ _ h) _ H
  .split
   .exact Rd.many_ok (λ_ h=>Rd.range_ok _ _ h) _ H
   .exact Rd.many_ok (λ_ h=>Rd.range_ok _ _ h) _ (Rd.n_ok 3 H)
def Rd.port(c:Int)(s:Rd):Line×Rd :=
 if c=1 then
  if 0<((s.range 4 24).2.n 3).1 then(⟨1,(s.range 4 24).1,c,[],[]⟩,((s.range 4 24).2.n 3).2)
  else((s.range 4 24).2.n 3).2.port2 (s.range 4 24).1 c
 else(s.range 4 24).2.port2 (s.range 4 24).1 c
theorem Rd.port_ok{s:Rd}(c:Int)(h:s.ok):(s.port c).2.ok:=by
 unfold Rd.port;have H:=s.range_ok 4 24 h;split
 .split
  .exact Rd.n_ok 3 H
  .exact Rd.port2_ok _ _ (Rd.n_ok 3 H)
 .exact Rd.port2_ok _ _ H
theorem Cy(s:Rd)(d:s.ok)(c:Int)(H:1<=c)(b:c<=6):bx 45 [.lptr 900 0,J c] [(900,s.ob)] (s.port c).1.av [(900,(s.port c).2.ob)]:=by
 have h:=s.range_ok 4 24 d;refine ee func45 ntmps45 results45 (λw I a=>?_) (hcl:=⟨rfl,rfl,rfl,bN rfl,bN rfl,rfl⟩);repeat'(first|(rw[show s.port c=((s.range 4 24).2.n 3).2.port2 (s.range 4 24).1 c from(if_pos ‹c=1›).trans (if_neg ‹¬0<((s.range 4 24).2.n 3).1›)];refine aT [5,4,1,0] [4,900,5] [] [] [] ⟨⟨rfl,rfl⟩,?_,?_⟩ (rP w I a _ (Rd.n_ok 3 h) (s.range 4 24).1 c H b))|(rw[show s.port c=(s.range 4 24).2.port2 (s.range 4 24).1 c from if_neg ‹¬c=1›];refine aT [5,4,1,0] [4,900,5] [] [] [] ⟨⟨rfl,rfl⟩,?_,?_⟩ (rP w I a _ h (s.range 4 24).1 c H b))|refine' gg|refine bT (fS _ d 4 24 Z Z Z) ?_|refine bT (lm _ h 3 ε) ?_)
 all_goals try refine' dw
 .rw[show s.port c=_ from(if_pos ‹c=1›).trans (if_pos ‹0<((s.range 4 24).2.n 3).1›)];exact AvLe.agg (.cons Θ (.cons Θ (.cons Θ (.cons AvLe.nils (.cons AvLe.nils .nil)))))
 .rw[show s.port c=_ from(if_pos ‹c=1›).trans (if_pos ‹0<((s.range 4 24).2.n 3).1›)];rfl
theorem x5{s s':Rd}{k v:Int}(e:s.n k=(v,s'))(a:s.ok)(H:ah k):bx 27 [.lptr 900 0,J k] [(900,s.ob)] (J v) [(900,s'.ob)]:=by
 have h:=lm s a k H;rw[e]at h;exact h
theorem gj{s s':Rd}{lo H v:Int}(e:s.range lo H=(v,s'))(d:s.ok)(a:-1000000<=lo)(b:lo<=H)(c:H<=1000000):bx 44 [.lptr 900 0,J lo,J H] [(900,s.ob)] (J v) [(900,s'.ob)]:=by
 have h:=fS s d lo H a b c;rw[e]at h;exact h
theorem rQ{s s':Rd}{l:List Int}{v:Int}(e:s.pick l=(v,s'))(b:s.ok)(a:0<l.length)(H:l.length<=2000):bx 47 [.lptr 900 0,c4 l] [(900,s.ob)] (J v) [(900,s'.ob)]:=by
 have h:=vy s b l a H;rw[e]at h;exact h
theorem ri{s s':Rd}{c:Curve}(e:s.contract=(c,s'))(H:s.ok):bx 79 [.lptr 900 0] [(900,s.ob)] c.av [(900,s'.ob)]:=by
 have h:=t9 s H;rw[e]at h;exact h
theorem KE{s s':Rd}{k v:Int}(e:s.n k=(v,s'))(h:0<k):0<=v/\v<k:=by
 have H:=mod_lt (x:=s.raw.1) h;have:(s.n k).1=v:=by rw[e]
 rw[<-this];exact H
theorem cj{s s':Rd}{lo H v:Int}(e:s.range lo H=(v,s'))(h:lo<=H):lo<=v/\v<=H:=by
 have a:=mod_lt (x:=s.raw.1) (n:=H-lo+1) Z;have:lo+KF s.raw.1 (H-lo+1)=v:=by
  have:=congrArg Prod.fst e;exact this
 omega
theorem Rd.ok_of{α:Type}{p:α×Rd}{v:α}{s':Rd}(e:p=(v,s'))(h:p.2.ok):s'.ok:=by rw[e]at h;exact h
def hops(a step n:Int):Nat->List Int×Int
 |0=>([],a)
 |j+1=>((hops a step n j).1++[(hops a step n j).2],KF ((hops a step n j).2+step) n)
theorem zd(a step n:Int):∀j:Nat,j=(hops a step n j).1.length
 |0=>rfl
 |j+1=>by simp only[hops,List.length_append,List.length_singleton];rw[<-zd a step n j]
theorem Ij{a step n:Int}(h:0<=a/\a<n):∀j:Nat,0<=(hops a step n j).2/\(hops a step n j).2<n
 |0=>h
 |j+1=>mod_lt Z
def iF(l:List Int):List Int:=if 1<l.length/\l.getD 0 0=l.getD 1 0 then l.take 1 else l
def Rd.flow(n:Nat)(N:ByteArray)(C:Int)(s:Rd):Flow×Rd :=
 let c:=s.n C
 let k:=c.2.contract
 let a:=k.2.range 1 3
 let b:=a.2.n 5
 let w:=b.2.n n
 let t:=w.2.pick [1,(n:Int)-1]
 let h:=t.2.range 1 (min 3 (n:Int))
 (⟨N,iF (hops w.1 t.1 n h.1.toNat).1,c.1,a.1,a.1+b.1,k.1⟩,h.2)
theorem Cz(s : Rd)(D:s.ok)(n:Nat)(g:Nat->List AV)(N:ByteArray)(C:Int)(hn:1<=n)(W:n<=100)(h0:1<=C)(h1:C<=6) :
  bx 46 [.lptr 900 0,.agg [.junk,.isl n 5 g,.junk],.str N,J C] [(900,s.ob)] (s.flow n N C).1.av [(900,(s.flow n N C).2.ob)]:=by
 obtain⟨c,u,o⟩:∃c u,s.n C=(c,u):=⟨_,_,rfl⟩;obtain⟨k,v,p⟩:∃k v,u.contract=(k,v):=⟨_,_,rfl⟩;obtain⟨a,x,E⟩:∃a x,v.range 1 3=(a,x):=⟨_,_,rfl⟩;obtain⟨b,y,d⟩:∃b y,x.n 5=(b,y):=⟨_,_,rfl⟩;obtain⟨w,S,f⟩:∃w S,y.n n=(w,S):=⟨_,_,rfl⟩;obtain⟨t,z,m⟩:∃t z,S.pick [1,(n:Int)-1]=(t,z):=⟨_,_,rfl⟩;obtain⟨h,A,q⟩:∃h A,z.range 1 (min 3 (n:Int))=(h,A):=⟨_,_,rfl⟩;have O:=Rd.ok_of o (s.n_ok C D);have G:=Rd.ok_of p (Rd.contract_ok O);have I:=Rd.ok_of E (Rd.range_ok 1 3 G);have K:=Rd.ok_of d (Rd.n_ok 5 I);have P:=Rd.ok_of f (Rd.n_ok n K);have o6:=Rd.ok_of m (Rd.pick_ok _ P);have m3:=cj E Z;have m4:=KE d Z;have m5:=KE f Z;have m7:=cj q Z;have m6:t=1\/t=(n:Int)-1:=by
  have:=nW (l:=[1,(n:Int)-1]) ν S;rw[m]at this;simpa using this
 have e:s.flow n N C=(⟨N,iF (hops w t n h.toNat).1,c,a,a+b,k⟩,A):=by
  simp only[Rd.flow,o,p,E,d,f,m,q]
 rw[e];have X:=zd w t n;have V:=Ij (step:=t) m5;refine ee func46 ntmps46 results46 (λw0 Q ρ0=>?_) (hcl:=⟨rfl,rfl,rfl,bN rfl,bN rfl,rfl⟩);repeat'(first|refine' gg|refine bT (x5 o D ε) ?_|refine bT (ri p O) ?_|refine bT (gj E G Z Z Z) ?_|refine bT (x5 d I ε) ?_|refine bT (x5 f K ε) ?_|refine bT (gj q o6 Z Z Z) ?_|(refine mL [.lptr 900 0] [] (rQ m P ν ν) rfl rfl rfl (π _) ?_ ?_ ?_;rotate_left;rotate_left;conv=>whnf))
 all_goals try exact ε
 all_goals try exact aM (by repeat'(first|exact True.intro|rfl|refine And.intro ?_ ?_))
 refine ⟨fZ 9 1 100 1 3 rfl rfl rfl rfl (aG (ι:={j:Nat//(j:Int)<=h}) [5,8,9,11] [5,8,900] [] ⟨0,Z⟩ (fun j=>h.toNat-j.1) (fun j=>[(10,J (hops w t n j.1).2),(12,J (h-j.1))])
  (λj=>[(9,some (.box [.str N,.osl 100 j.1,J c,J a,J (a+b),c4 k.vals,J k.per,J k.inc])),(100,some (.arr j.1 1 (ey hP 0 (hops w t n j.1).1) 3))]) ?_ ?_).good⟩
 .refine⟨⟨rfl,rfl⟩,?_,?_⟩;all_goals try refine' dw
  all_goals exact fl rfl (ψ)
 .intro j;conv=>whnf
  have hj:=j.2;have L:=X j.1;have R:=V j.1;repeat'(first|refine' gi|(refine b8 [8] [8,100,900] [] [] [] ⟨⟨rfl,rfl⟩,?_,?_⟩ (cq 100 rfl rfl (λ_ _=>rfl) ?_ ?_ (ip ?_ ?_)))|refine ab (yW _ _ ε) ?_|(refine aH [(100,58)] ⟨j.1+1,?_⟩ ⟨⟨rfl,rfl⟩,?_,?_⟩ ?_))
  all_goals try refine' dw
  all_goals try exact ε
  all_goals try omega
  all_goals try(refine fl rfl λi r=>b9 hP 0 _ _ L i r _ λe=>?_;subst e;simp;rfl)
  all_goals try(show(_:Nat)<_;dsimp only;omega)
  all_goals try(exactλi _=>⟨trivial,trivial⟩)
  all_goals try (intro k hk;have:k=0:=Z
                 subst this;rfl)
  all_goals try exact π j.1
  all_goals try (show Int.toNat 1<=j.1;have:Int.toNat 1=1:=rfl
                 omega)
  all_goals try rfl
  all_goals have B:h.toNat=j.1:=Z
  all_goals try (have H:iF (hops w t n j.1).1=(hops w t n j.1).1.take 1:=if_pos ⟨Z,‹(hops w t n j.1).1.getD (Int.toNat 0) 0=(hops w t n j.1).1.getD (Int.toNat 1) 0›⟩
                 rw[B,H];refine AvLe.agg (.cons Θ (.cons (kd ?_ λi r=>?_) (.cons Θ (.cons Θ (.cons Θ (.cons Θ (.cons Θ (.cons Θ .nil))))))))
                 .rw[List.length_take];have:Int.toNat 1=1:=rfl;omega
                 .have : i = 0 := by have:Int.toNat 1 = 1:=rfl
                                     omega
                  subst this;simp[ey,hP])
  all_goals try (have H:iF (hops w t n j.1).1=(hops w t n j.1).1:=if_neg (by first|(intro F;omega)|exact fun F=>‹¬(hops w t n j.1).1.getD (Int.toNat 0) 0=(hops w t n j.1).1.getD (Int.toNat 1) 0› F.2)
                 rw[B,H];exact AvLe.agg (.cons Θ (.cons (kd L λi r=>rfl) (.cons Θ (.cons Θ (.cons Θ (.cons Θ (.cons Θ (.cons Θ .nil)))))))))
def b1(n:UInt8):ByteArray:=⟨#[n]⟩
def lv:Nat->ByteArray
 |0=>b1 97
 |1=>b1 98
 |2=>b1 99
 |_=>b1 100
def dz:Nat->ByteArray
 |0=>b1 102
 |1=>b1 103
 |2=>b1 104
 |3=>b1 105
 |_=>b1 106
def bK:Nat->List ByteArray
 |0=>[]
 |n+1=>bK n++[lv n]
theorem iG:∀n,n=(bK n).length
 |0=>rfl
 |n+1=>by simp only[bK,List.length_append,List.length_singleton];rw[<-iG n]
def Rd.lines(k:Int):Nat->Rd->List Line×Rd
 |0,s=>([],s)
 |n+1,s=>((Rd.lines k n s).1++[((Rd.lines k n s).2.port k).1],((Rd.lines k n s).2.port k).2)
def Rd.flows(m:Nat)(k:Int):Nat->Rd->List Flow×Rd
 |0,s=>([],s)
 |n+1,s=>((Rd.flows m k n s).1++[((Rd.flows m k n s).2.flow m (dz n) k).1],((Rd.flows m k n s).2.flow m (dz n) k).2)
theorem Rd.lines_len(k:Int)(s:Rd):∀n,n=(Rd.lines k n s).1.length
 |0=>rfl
 |n+1=>by simp only[Rd.lines,List.length_append,List.length_singleton];rw[<-Rd.lines_len k s n]
theorem Rd.flows_len(m:Nat)(k:Int)(s:Rd):∀n,n=(Rd.flows m k n s).1.length
 |0=>rfl
 |n+1=>by simp only[Rd.flows,List.length_append,List.length_singleton];rw[<-Rd.flows_len m k s n]
theorem Rd.lines_ok(k:Int){s:Rd}(h:s.ok):∀n,(Rd.lines k n s).2.ok
 |0=>h
 |n+1=>Rd.port_ok k (Rd.lines_ok k h n)
theorem Rd.flow_ok{s:Rd}(n:Nat)(N:ByteArray)(C:Int)(h:s.ok):(s.flow n N C).2.ok:=by
 obtain⟨c,S,E⟩:∃c S,s.n C=(c,S):=⟨_,_,rfl⟩;obtain⟨k,e,l⟩:∃k e,S.contract=(k,e):=⟨_,_,rfl⟩;obtain⟨a,f,m⟩:∃a f,e.range 1 3=(a,f):=⟨_,_,rfl⟩;obtain⟨b,g,o⟩:∃b g,f.n 5=(b,g):=⟨_,_,rfl⟩;obtain⟨w,i,p⟩:∃w i,g.n n=(w,i):=⟨_,_,rfl⟩;obtain⟨t,j,q⟩:∃t j,i.pick [1,(n:Int)-1]=(t,j):=⟨_,_,rfl⟩;obtain⟨d,u,r⟩:∃d u,j.range 1 (min 3 (n:Int))=(d,u):=⟨_,_,rfl⟩;have O:=Rd.ok_of E (s.n_ok C h);have v:=Rd.ok_of l (Rd.contract_ok O);have x:=Rd.ok_of m (Rd.range_ok 1 3 v);have y:=Rd.ok_of o (Rd.n_ok 5 x);have z:=Rd.ok_of p (Rd.n_ok n y);have A:=Rd.ok_of q (Rd.pick_ok _ z);have B:=Rd.ok_of r (Rd.range_ok _ _ A);simp only[Rd.flow,E,l,m,o,p,q,r];exact B
theorem Rd.flows_ok(m:Nat)(k:Int){s:Rd}(h:s.ok)(n:Nat):(Rd.flows m k n s).2.ok:=by
 induction n with
 |zero=>exact h
 |succ n ih=>
  simp only[Rd.flows];exact Rd.flow_ok m _ k ih
def Rd.net(lines flows:Int)(s:Rd):Net×Rd :=
 let k:=s.range 1 2
 let c:=k.2.range 1 lines
 let l:=Rd.lines k.1 c.1.toNat c.2
 let e:=l.2.range 0 flows
 let f:=Rd.flows c.1.toNat k.1 e.1.toNat e.2
 (⟨bK c.1.toNat,l.1,f.1⟩,f.2)
theorem FF(s:Rd)(I:s.ok)(L f:Int)(h0:1<=L)(h1:L<=4)(h2:0<=f)(h3:f<=5) :
  bx 12 [.lptr 900 0,J L,J f] [(900,s.ob)] (s.net L f).1.av [(900,(s.net L f).2.ob)]:=by
 obtain⟨k,B,r⟩:∃k B,s.range 1 2=(k,B):=⟨_,_,rfl⟩;obtain⟨c,S,t⟩:∃c S,B.range 1 L=(c,S):=⟨_,_,rfl⟩;obtain⟨l,C,g⟩:∃l C,Rd.lines k c.toNat S=(l,C):=⟨_,_,rfl⟩;obtain⟨e,a,u⟩:∃e a,C.range 0 f=(e,a):=⟨_,_,rfl⟩;have m1:=cj r Z;have m2:=cj t Z;have m4:=cj u Z;have O:=Rd.ok_of r (Rd.range_ok 1 2 I);have o2:=Rd.ok_of t (Rd.range_ok 1 L O);have Q:=Rd.lines_ok k o2;have K:=Rd.ok_of g (Q c.toNat);have o4:=Rd.ok_of u (Rd.range_ok 0 f K);have W:s.net L f=(⟨bK c.toNat,l,(Rd.flows c.toNat k e.toNat a).1⟩,(Rd.flows c.toNat k e.toNat a).2):=by
  simp only[Rd.net,r,t,g,u]
 rw[W];refine ee func12 ntmps12 results12 (λw0 R ρ0=>?_) (hcl:=⟨rfl,rfl,rfl,bN rfl,bN rfl,rfl⟩);repeat'(first|refine' gg|refine bT (gj r I Z Z Z) ?_|refine bT (gj t O Z Z Z) ?_)
 refine ⟨fZ 7 0 100 1 9 rfl rfl rfl rfl (fZ 7 1 101 5 97 rfl rfl rfl rfl (aG (ι:={j:Nat//(j:Int)<=c}) [0,2,6,7,8] [6] [] ⟨0,Z⟩ (fun j=>c.toNat-j.1) (fun j=>[(9,J (c-j.1))])
  (λj=>[(7,some (.box [.osl 100 j.1,.osl 101 j.1,.nils])),(100,some (.arr j.1 1 (ey J6 .empty (bK j.1)) 9)),(101,some (.arr j.1 5 (ey Line.cells default (Rd.lines k j.1 S).1) 97)),(900,some (Rd.lines k j.1 S).2.ob)]) ?_ ?_).good)⟩
 .refine⟨⟨rfl,rfl⟩,?_,?_⟩;all_goals try refine' dw
  all_goals first|exact fl rfl (ψ)
 .intro j;conv=>whnf
  have A:=iG j.1;have n:=Rd.lines_len k S j.1;have N:=Q j.1;obtain⟨j,hj⟩:=j;dsimp only at A n N;obtain⟨p,w,D⟩:∃p w,(Rd.lines k j S).2.port k=(p,w):=⟨_,_,rfl⟩;have pj:bx 45 [.lptr 900 0,J k] [(900,(Rd.lines k j S).2.ob)] p.av [(900,w.ob)]:=by
   have h:=Cy _ N k Z Z;rw[D]at h;exact h
  have G:Rd.lines k (j+1) S=((Rd.lines k j S).1++[p],w):=by simp only[Rd.lines,D]
  have rj:¬(0<c-(j:Int))->bx 44 [.lptr 900 0,J 0,J f] [(900,(Rd.lines k j S).2.ob)] (J e) [(900,a.ob)]:=by
   intro b;have h8:j=c.toNat:=Z;rw[h8,g];exact gj u K Z Z Z
  repeat'(first|(refine VCells.mk ⟨[.str (lv j)],by(have b:=‹0<c-(_:Int)›;dsimp only at b;rcases(Z:j=0\/j=1\/j=2\/j=3)with H|H|H|H<;>subst H<;>rfl),?_⟩;conv=>whnf)|refine' gg|refine bT pj ?_|refine bT (rj ‹_›) ?_|(refine aH [(100,30),(101,38)] ⟨j+1,?_⟩ ⟨⟨rfl,rfl⟩,?_,?_⟩ ?_))
  all_goals try refine' dw
  all_goals try(have b:=‹0<c-(_:Int)›;dsimp only at b;first|exact bs|(dsimp only;omega))
  all_goals try(refine fl rfl λi v=>b9 J6 _ _ _ A i v _ λe=>?_;subst e;simp;rfl)
  all_goals try(show ObLe _ (J2 _ (.arr (j+1) 5 (ey Line.cells default (Rd.lines k (j+1) S).1) 97));rw[G];refine fl rfl λi v=>b9 Line.cells _ _ _ n i v _ λe=>?_;subst e;simp;rfl)
  all_goals try(show ObLe _ (J2 _ (Rd.lines k (j+1) S).2.ob);rw[G];exact cy)
  all_goals try (intro q hq;have z:q=0:=Z
                 subst z;rfl)
  all_goals try(have b:=‹0<c-(_:Int)›;dsimp only at b;rcases(Z:j=0\/j=1\/j=2\/j=3)with H|H|H|H<;>subst H<;>dsimp only<;>decide)
  have hb':¬(0<c-(j:Int)):=by assumption
  have V:c.toNat=j:=Z;subst V;rw[g]at n;dsimp only at n;have ln:=Rd.flows_len c.toNat k a;have X:=Rd.flows_ok c.toNat k o4;refine⟨fZ 7 2 102 8 47 rfl rfl rfl rfl ?_⟩;refine aT [0,2,6,7,8,10] [6,7,100,101,102,900] [] [] [] ⟨⟨rfl,rfl⟩,?_,?_⟩ ?_;all_goals try refine' dw
  conv=>whnf
  refine jI 100 rfl rfl (λ_ _=>rfl) ?_ ?_ ?_;rotate_left;rotate_left;refine jI 101 rfl rfl (λ_ _=>rfl) ?_ ?_ ?_;rotate_left;rotate_left;refine aT [] [] [] [(0,.lptr 900 0),(6,.lptr 6 0),(7,.lptr 7 0),(8,J k),(10,J e)] [(6,some (.box Ou.zero)),(7,some (.box [.isl c.toNat 1 (ey J6 .empty (bK c.toNat)),.isl c.toNat 5 (ey Line.cells default (Rd.lines k c.toNat S).1),.osl 102 0])),(102,some (.arr 0 8 (λ_=>[]) 47)),(900,some a.ob)] ⟨⟨rfl,rfl⟩,?_,?_⟩ ?_;rotate_left;rotate_left;conv=>whnf
  refine (aG (ι:={i:Nat//(i:Int)<=e}) [0,6,7,8] [6] [] ⟨0,Z⟩ (fun i=>e.toNat-i.1) (fun i=>[(10,J (e-i.1))])
   (λi=>[(7,some (.box [.isl c.toNat 1 (ey J6 .empty (bK c.toNat)),.isl c.toNat 5 (ey Line.cells default (Rd.lines k c.toNat S).1),.osl 102 i.1])),(102,some (.arr i.1 8 (ey Flow.cells default (Rd.flows c.toNat k i.1 a).1) 47)),(900,some (Rd.flows c.toNat k i.1 a).2.ob)]) ?_ ?_).good
  .refine⟨⟨rfl,rfl⟩,?_,?_⟩;all_goals try refine' dw
   all_goals try exact fl rfl (ψ)
  .intro i;conv=>whnf
   have d:=ln i.1;have o:=X i.1;obtain⟨i,v⟩:=i;dsimp only at d o;obtain⟨F,x,m⟩:∃F x,(Rd.flows c.toNat k i a).2.flow c.toNat (dz i) k=(F,x):=⟨_,_,rfl⟩;have E:Rd.flows c.toNat k (i+1) a=((Rd.flows c.toNat k i a).1++[F],x):=by simp only[Rd.flows,m]
   have P:bx 46 [.lptr 900 0,.agg [.isl c.toNat 1 (ey J6 .empty (bK c.toNat)),.isl c.toNat 5 (ey Line.cells default (Rd.lines k c.toNat S).1),.osl 102 i],.str (dz i),J k] [(900,(Rd.flows c.toNat k i a).2.ob)] F.av [(900,x.ob)]:=by
    have h:=Cz _ o c.toNat (ey Line.cells default (Rd.lines k c.toNat S).1) (dz i) k Z Z Z Z;rw[m]at h;exact CallSpec.arg (.cons Θ (.cons (AvLe.agg (.cons AvLe.junk (.cons Θ (.cons AvLe.junk .nil)))) (.cons Θ (.cons Θ .nil)))) h
   repeat'(first|(refine VCells.mk ⟨[.str (dz i)],?_,?_⟩;rotate_left;conv=>whnf)|refine' gi|(refine b8 [6] [6,102,900] [] [] [] ⟨⟨rfl,rfl⟩,?_,?_⟩ (cq 102 rfl rfl (λ_ _=>rfl) ?_ ?_ (ip ?_ ?_)))|refine bT P ?_|(refine aH [(102,61)] ⟨i+1,?_⟩ ⟨⟨rfl,rfl⟩,?_,?_⟩ ?_))
   .dsimp only at hb;omega
   .clear P;all_goals repeat'(first|exact True.intro|refine And.intro ?_ ?_)
    .rfl
    .conv=>whnf
     exact cy
    .rfl
    .conv=>whnf
     exact cy
    .exactλ_ _=>rfl
    .conv=>whnf
     show ObLe _ (J2 _ (.arr (i+1) 8 (ey Flow.cells default (Rd.flows c.toNat k (i+1) a).1) 47));rw[E];refine fl rfl λq hq=>b9 Flow.cells _ _ _ d q hq _ λe=>?_;subst e;simp;rfl
    .rfl
    .conv=>whnf
     show ObLe _ (J2 _ (Rd.flows c.toNat k (i+1) a).2.ob);rw[E];exact cy
   .clear P;all_goals repeat'(first|exact True.intro|refine And.intro ?_ ?_)
    all_goals first
     |rfl
     | (conv=>whnf
        first|exact Θ|(refine Γ ?_;dsimp only;omega))
   .dsimp only at hb⊢;omega
   .dsimp only at hb⊢;unfold ah;omega
   .refine⟨π _,by dsimp only at hb⊢;omega,λq hq=>?_⟩;have z:q=0:=Z;subst z;rfl
   .exact π _
   .dsimp only at hb⊢;clear P E m o d;rcases(Z:i=0\/i=1\/i=2\/i=3\/i=4)with H|H|H|H|H<;>subst H<;>rfl
   .dsimp only at hb⊢;clear P E m o d;rcases(Z:i=0\/i=1\/i=2\/i=3\/i=4)with H|H|H|H|H<;>subst H<;>decide
   .dsimp only at hb⊢;clear P E m o d;rcases(Z:i=0\/i=1\/i=2\/i=3\/i=4)with H|H|H|H|H<;>subst H<;>decide
   .decide
   .all_goals try refine' dw
   .all_goals try refine' dw
   .all_goals try refine' frzZ
   .all_goals try refine' frzZ
   .have y:e.toNat=i:=by dsimp only at hb;omega
    conv=>whnf
    show AvLe (.agg [.isl c.toNat 1 (ey J6 .empty (bK c.toNat)),.isl c.toNat 5 (ey Line.cells default (Rd.lines k c.toNat S).1),.isl i 8 (ey Flow.cells default (Rd.flows c.toNat k i a).1)]) (.agg [slc 1 J6 .empty (bK c.toNat),slc 5 Line.cells default l,slc 8 Flow.cells default (Rd.flows c.toNat k e.toNat a).1]);rw[y,g];exact AvLe.agg (.cons (kd A λ_ _=>rfl) (.cons (kd n λ_ _=>rfl) (.cons (kd d λ_ _=>rfl) .nil)))
   .have y:e.toNat=i:=by dsimp only at hb;omega
    rw[y];rfl
  all_goals try refine' frzZ
  all_goals try refine' dw
def jK:List Int:=[0,1,2,3,4,6,9,14,-1]
def Rd.row:Nat->Rd->List Int×Rd
 |0,s=>([],s)
 |k+1,s=>((Rd.row k s).1++[((Rd.row k s).2.pick jK).1],((Rd.row k s).2.pick jK).2)
def Rd.rows(l:List Line):Nat->Rd->Xa×Rd
 |0,s=>([],s)
 |j+1,s=>((Rd.rows l j s).1++[((Rd.rows l j s).2.row (l.getD j default).classes.toNat).1],((Rd.rows l j s).2.row (l.getD j default).classes.toNat).2)
def Rd.delays(l:List Line)(s:Rd):Xa×Rd:=Rd.rows l l.length s
theorem Rd.row_len(s:Rd):∀n,n=(Rd.row n s).1.length
 |0=>rfl
 |n+1=>by simp only[Rd.row,List.length_append,List.length_singleton];rw[<-Rd.row_len s n]
theorem Rd.rows_len(l:List Line)(s:Rd):∀n,n=(Rd.rows l n s).1.length
 |0=>rfl
 |n+1=>by simp only[Rd.rows,List.length_append,List.length_singleton];rw[<-Rd.rows_len l s n]
theorem Rd.row_ok{s:Rd}(h:s.ok):∀n,(Rd.row n s).2.ok
 |0=>h
 |n+1=>Rd.pick_ok jK (Rd.row_ok h n)
theorem Rd.rows_ok(l:List Line){s:Rd}(h:s.ok):∀n,(Rd.rows l n s).2.ok
 |0=>h
 |n+1=>Rd.row_ok (Rd.rows_ok l h n) _
theorem C0{α:Type}(enc:α->List AV)(d:α)(l:List α)(x:α)(b:List AV->List AV)(h:∀a,b (enc a)=enc a){n:Nat}(c:n=l.length)(i:Nat)(H:i<n+1)(t:List AV)(e:i=n->b t=enc x):b (bif Nat.blt i n then ey enc d l i else t)=ey enc d (l++[x]) i:=by
 have:=b9 enc d l x c i H (b t) e;rw[<-this];cases hb:Nat.blt i n with
 |true=>exact h _
 |false=>rfl
theorem aL{b n:Nat}{g:Nat->List AV}(h:n+1<=1099511627776)(H:fU (g 0)=true):tq b n 1 g:=by
 refine⟨.inl h,λq hq=>?_⟩;have:q=0:=Z;rw[this];exact H
theorem oV{id:Nat}{ob:LObj}{c:Bool}{a b:List AV}(h:o7 id ob a)(H:c=false->o7 id ob b):o7 id ob (bif c then a else b):=by
 cases c with
 |true=>exact h
 |false=>exact H rfl
theorem C1{i j:Nat}(h:Nat.blt i j=false):j<=i:=by
 rcases ξ i j with H|H
 .rw[Nat.blt_eq.mpr H]at h;cases h
 .exact H
theorem FG{X:Frm}{ι:Type}{F:ι->St}{a:ι->Nat}{i:ι}{B:St}(id:Nat){ob:LObj}(H:eU B.objs id=some ob)(e:X.pid.elem id=false)(h:H4 ob)(c:rh id ob B.env)(b:jf id ob B.objs)
  (r:List (Nat×Nat)) (j:ι) (f:KN X r (B.frz id ob) (F j)) (d:a j<a i):∃j,Ghost X B (F j)/\a j<a i :=
 ⟨j,(ll id H e h c b).trans (fW r f),d⟩
theorem x6(s:Rd)(y:s.ok)(n:Net)(hb:n.lines.length<=1000)(u:∀l∈n.lines,0<=l.classes/\l.classes<=1000) :
  bx 13 [.lptr 900 0,n.av] [(900,s.ob)] (aF (s.delays n.lines).1) [(900,(s.delays n.lines).2.ob)]:=by
 have A:=Rd.rows_len n.lines s;have lo:=Rd.rows_ok n.lines y;refine ee func13 ntmps13 results13 (λW I B=>?_) (hcl:=⟨rfl,rfl,rfl,bN rfl,bN rfl,rfl⟩);repeat'(first|refine' gg|fail)
 refine ⟨jJ 5 100 1 22 rfl rfl rfl (aG (ι:={j:Nat//j<=n.lines.length}) [0,3] [3] [] ⟨0,χ _⟩ (fun j=>n.lines.length-j.1) (fun j=>[(5,.osl 100 j.1),(6,J j.1)])
  (λj=>[(100,some (.arr j.1 1 (ey cJ [] (Rd.rows n.lines j.1 s).1) 22)),(900,some (Rd.rows n.lines j.1 s).2.ob)]) ?_ ?_).good⟩
 .refine⟨⟨rfl,rfl⟩,?_,?_⟩;all_goals try refine' dw
  all_goals exact fl rfl (ψ)
 .intro j;conv=>whnf
  have L:=A j.1;have o:=lo j.1;obtain⟨j,w⟩:=j;dsimp only at L o;obtain⟨R,S,E⟩:∃R S,Rd.rows n.lines j s=(R,S):=⟨_,_,rfl⟩;rw[show Rd.rows n.lines (⟨j,w⟩:{j:Nat//j<=n.lines.length}).1 s=(R,S)from E];obtain⟨C,a⟩:∃C,(n.lines.getD j default).classes=C:=⟨_,rfl⟩;rw[E]at L o;dsimp only at L o;have K:=Rd.row_len S;have z:=Rd.row_ok o;repeat'(first|refine' gi|(refine b8 [4] [100,900] [] [] [] ⟨⟨rfl,rfl⟩,?_,?_⟩ (cq 100 rfl rfl (λ_ _=>rfl) ?_ ?_ (ip ?_ ?_))))
  .have H : j<n.lines.length:=by dsimp only at hb;omega
   have hcl:=u (n.lines.getD j default) (by simp[H]);rw[a]at hcl;refine ⟨jJ 7 101 1 3 rfl rfl rfl (aG (ι:={c:Nat//(c:Int)<=C}) [0,3,5,6] [3,100] [] ⟨0,Z⟩ (fun c=>C.toNat-c.1) (fun c=>[(7,.osl 101 c.1),(8,J c.1)])
    (λc=>[(101,some (.arr c.1 1 (ey hP 0 (Rd.row c.1 S).1) 3)),(900,some (Rd.row c.1 S).2.ob)]) ?_ ?_).good⟩
   .refine⟨⟨rfl,rfl⟩,?_,?_⟩;all_goals try refine' dw
    all_goals exact fl rfl (ψ)
   .intro c;conv=>whnf
    have k:=K c.1;have O:=z c.1;obtain⟨c,v⟩:=c;dsimp only at k O;obtain⟨x,s',g⟩:∃x s',(Rd.row c S).2.pick jK=(x,s'):=⟨_,_,rfl⟩;have m:Rd.row (c+1) S=((Rd.row c S).1++[x],s'):=by simp only[Rd.row,g]
    repeat'(first|refine' gg|(refine mL [.lptr 900 0] [] (rQ g O (by simp[jK]) (by simp[jK])) rfl rfl rfl (π _) ?_ ?_ ?_;rotate_left;rotate_left;conv=>whnf)|(refine FG (ob:=.arr _ _ _ 3) 101 rfl rfl ?_ ?_ ?_ [(100,35)] ⟨j+1,?_⟩ ⟨⟨rfl,rfl⟩,?_,?_⟩ ?_)|(refine aH [(101,31)] ⟨c+1,?_⟩ ⟨⟨rfl,rfl⟩,?_,?_⟩ ?_))
    all_goals try dsimp only at hb
    all_goals try simp only[β,a]at hb
    all_goals try first|omega|(dsimp only;omega)|exactλ_ _=>rfl|(dsimp only;unfold ah;omega)|exact⟨π _,aL κ rfl⟩|exact aM (by repeat'(first|exact True.intro|rfl|refine And.intro ?_ ?_))
    ·(repeat'(first|exact True.intro|refine And.intro ?_ ?_))<;>first
      |rfl
      |exactλ_ _=>rfl
      | (conv => whnf
         first
          | (show ObLe _ (J2 _ (.arr (c+1) 1 (ey hP 0 (Rd.row (c+1) S).1) 3))
             rw[m];refine fl rfl λq hq=>b9 hP 0 _ _ k q hq _ λe=>?_;subst e;simp;rfl)
          | (show ObLe _ (J2 _ (Rd.row (c+1) S).2.ob)
             rw[m];exact cy)
          |exact cy)
    .all_goals try refine' dw
    .all_goals try refine' frzZ
    .have b:∀q:Nat,q<1->q=0:=λq hq=>Z;refine⟨λq hq=>oV ⟨trivial,trivial⟩ λh=>?_,trivial,λq hq=>?_,?_⟩
     .have t:=C1 h;have r:q=j:=by dsimp only at hq t;omega
      subst r;dsimp only;rw[Nat.sub_self];exact⟨π _,trivial⟩
     .rw[b q hq];exact⟨π _,trivial⟩
     all_goals try refine' frzZ
    .have p : C.toNat=c:=Z;have i:Rd.rows n.lines (j+1) s=(R++[(Rd.row c S).1],(Rd.row c S).2):=by simp only[Rd.rows,E,a,p]
     (repeat'(first|exact True.intro|refine And.intro ?_ ?_))<;>first
      |rfl
      |exactλ_ _=>rfl
      | (conv => whnf
         first
          | (show ObLe _ (J2 _ (.arr (j+1) 1 (ey cJ [] (Rd.rows n.lines (j+1) s).1) 22))
             rw[i];refine fl rfl λq hq=>?_;refine C0 cJ [] R (Rd.row c S).1 (nb 101 _) (λ_=>rfl) L q hq _ λe=>?_;subst e;dsimp only;rw[Nat.sub_self];show[AV.isl c 1 (ey hP 0 (Rd.row c S).1)]=[AV.isl (Rd.row c S).1.length 1 (ey hP 0 (Rd.row c S).1)];rw[<-k])
          | (show ObLe _ (J2 _ (Rd.rows n.lines (j+1) s).2.ob)
             rw[i];exact cy)
          |exact cy)
    .all_goals try refine' dw
  .all_goals try refine' dw
  .all_goals try refine' dw
  .all_goals try refine' frzZ
  .all_goals try refine' frzZ
  .have f:n.lines.length=j:=by dsimp only at hb;omega
   conv=>whnf
   show AvLe (.isl j 1 (ey cJ [] R)) (aF (Rd.delays n.lines s).1);have d:Rd.delays n.lines s=(R,S):=by rw[Rd.delays,f,E]
   rw[d];exact kd L λ_ _=>rfl
  .have f:n.lines.length=j:=by dsimp only at hb;omega
   have d:Rd.delays n.lines s=(R,S):=by rw[Rd.delays,f,E]
   rw[d];rfl
theorem L4(b:ByteArray):b.data.toList.length=b.size:=Array.length_toList
theorem x7(b:ByteArray):∀(k i:Nat) (r:List UInt8),b.size-i=k->ByteArray.toList.loop b i r=r.reverse++(b.data.toList.drop i)
 |0,i,r,h=>by
  unfold ByteArray.toList.loop;rw[if_neg Z];rw[List.drop_eq_nil_of_le (by have:=L4 b;omega),List.append_nil]
 |k+1,i,r,h=>by
  have H:=L4 b;unfold ByteArray.toList.loop;rw[if_pos Z,x7 b k (i+1) _ Z];rw[List.drop_eq_getElem_cons (i:=i) Z];have e:b.get! i=b.data.toList[i]'Z:=by
   show b.data[i]! =_;rw[getElem!_pos b.data i (by have:b.data.size=b.size:=rfl;omega),Array.getElem_toList]
  rw[e,List.reverse_cons,List.append_assoc];rfl
theorem oW(a b:ByteArray)(h:a.toList=b.toList):a=b:=by
 unfold ByteArray.toList at h;rw[x7 a a.size 0 [] rfl,x7 b b.size 0 [] rfl]at h;simp only[List.reverse_nil,List.nil_append,List.drop_zero]at h;exact ByteArray.ext (Array.ext' h)
def M1(c:Nat):Prop:=c=45\/(48<=c/\c<=57)\/(97<=c/\c<=122)
structure WordP(s:ByteArray):Prop where
 len:1<=s.size/\s.size<=12
 first:97<=(s.get! 0).toNat/\(s.get! 0).toNat<=122
 rest:∀i,i<s.size->M1 (s.get! i).toNat
theorem C2{s:ByteArray}(h:0<s.size):(s.toList==ByteArray.toList ⟨#[]⟩)=false:=by
 cases hb:(s.toList==ByteArray.toList ⟨#[]⟩)with
 |false=>rfl
 |true=>
  have e:=oW _ _ (eq_of_beq hb);rw[e]at h;exact absurd h η
set_option maxRecDepth 4000 in
theorem C3{s:ByteArray}(h:WordP s):q0e 210 [.str s] (.bool true):=by
 suffices d:∃b:Bool,b=true/\q0e 210 [.str s] (.bool b) by obtain⟨_,rfl,p⟩:=d;exact p
 have i:=h.len;have F:=h.first;have k:=C2 (s:=s) Z;have a:s.get! (Int.toNat 0)=s.get! 0:=rfl;refine dp func210 ntmps210 results210 ?_;repeat'(first|(refine aA (λhb=>absurd hb (λe=>Bool.noConfusion (k.symm.trans e))) (λhb=>?_);conv=>whnf)|refine' aj|fail)
 all_goals try first|exact bs|(rw[a]at *;exfalso;omega)
 refine ae (ι:={j:Nat//1<=j/\j<=s.size}) [0,2] [] [] ⟨1,π _,i.1⟩ (λ⟨j,_⟩=>s.size-j) (λ⟨j,_⟩=>[(3,J j)]) (λ_=>[]) ?_ ?_
 .exact⟨⟨rfl,rfl⟩,bt,bt⟩
 .rintro⟨j,f,l⟩;conv=>whnf
  by_cases H:(j:Int)<s.size
  .obtain⟨c,E⟩:∃c:Nat,c=(s.get! (j:Int).toNat).toNat:=⟨_,rfl⟩;have g:M1 c:=E▸h.rest j Z;unfold M1 at g;repeat'(first|(refine U H λhb=>?_;conv=>whnf)|(exact aI [] ⟨j+1,Z,Z⟩)|refine' aj|fail)
   all_goals try first|exact bs|(rw[<-E]at *;exfalso;omega)
  .skip;repeat'(first|(refine M H λhb=>?_;conv=>whnf)|refine' aj|fail)
   all_goals try exact bs
   exact ag ⟨true,rfl,rfl⟩
set_option maxRecDepth 4000 in
theorem zh{s:ByteArray}(h:WordP s):q0e 80 [.str s] (.bool true):=by
 suffices a:∃b:Bool,b=true/\q0e 80 [.str s] (.bool b) by obtain⟨_,rfl,p⟩:=a;exact p
 have i:=h.len;have f:=h.first;have E:s.get! (Int.toNat 0)=s.get! 0:=rfl;refine dp func80 ntmps80 results80 ?_;repeat'(first|refine' aj|fail)
 all_goals try first|exact bs|(exfalso;omega)|(rw[E]at *;exfalso;omega)
 refine ae (ι:={j:Nat//j<=s.size}) [0,2] [] [] ⟨0,Z⟩ (λ⟨j,_⟩=>s.size-j) (λ⟨j,_⟩=>[(3,J j)]) (λ_=>[]) ?_ ?_
 .exact⟨⟨rfl,rfl⟩,bt,bt⟩
 .rintro⟨j,g⟩;conv=>whnf
  by_cases H:(j:Int)<s.size
  .obtain⟨c,e⟩:∃c:Nat,c=(s.get! (j:Int).toNat).toNat:=⟨_,rfl⟩;have d:M1 c:=e▸h.rest j Z;unfold M1 at d;repeat'(first|(refine U H λhb=>?_;conv=>whnf)|(exact aI [] ⟨j+1,Z⟩)|refine' aj|fail)
   all_goals try first|exact bs|(rw[<-e]at *;exfalso;omega)
  .skip;repeat'(first|(refine M H λhb=>?_;conv=>whnf)|refine' aj|fail)
   all_goals try exact bs
   exact ag ⟨true,rfl,rfl⟩
instance (c:Nat):Decidable (M1 c):=by unfold M1;infer_instance
theorem zi{k:UInt8}(h:97 <= k.toNat/\k.toNat <= 122):WordP (b1 k):=⟨⟨π 1,(by decide:1<=12)⟩,h,fun i H=>by
 have a:i<1:=H;obtain rfl:i=0:=Z;exact .inr (.inr h)⟩
theorem rR(i:Nat):WordP (lv i):=by
 match i with
 |0|1|2|n+3=>exact zi η
theorem rT(i:Nat):WordP (dz i):=by
 match i with
 |0|1|2|3|n+4=>exact zi η
end Go.Nc