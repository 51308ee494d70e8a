/- Parts. -/
import Derived.Test.YtbdkgpcdkalfdaaGreatNdR7X
import Derived.Test.YtbdkgpcdkalfdaaGreatNdBRA
namespace Go.Nc
open Go.Proofs.Tryz
open Go.Proofs
set_option maxHeartbeats 8000000
theorem Ft(c:Curve)(H:1<=c.per/\c.per<=c.vals.length)(h:c.vals.length<=100000):q0e 274 [c.av] (J (c.st:Int)):=by
 have e:(c.vals.length:Int)-c.per=(c.st:Int):=by unfold Curve.st;omega
 rw[<-e];refine' db func274 ntmps274 results274
 all_goals first|exact Θ|exact ε
theorem Jz(c:Curve)(h:NrmC c):q0e 253 [c.av] (.bool true):=by
 have H:=h.per;have e:((c.vals.length:Int)-1).toNat=c.vals.length-1:=Z;have hb:=h.finB;unfold finB at hb;rw[<-hb];refine' db func253 ntmps253 results253
 all_goals first|exact bs|exact Ξ (by rw[e];rfl)
theorem Az{c:Curve}(k:a6 c){P:Nat}(d:P<=120)(b:∃m:Nat,P=(m+1)*c.per.toNat):c.inc*((P:Nat):Int).tdiv c.per=aD c P/\(0<=aD c P/\aD c P<=1073741824*120)/\1<=c.per/\0<=((P:Nat):Int).tdiv c.per/\((P:Nat):Int).tdiv c.per<=120:=by
 obtain⟨m,e⟩:=b;have g:=k.per;have h:=k.wf.inc;have E:((P:Nat):Int).tdiv c.per=((m+1:Nat):Int):=by
  rw[e,Int.natCast_mul,(Z:((c.per.toNat:Nat):Int)=c.per)];exact Int.mul_tdiv_cancel _ Z
 have f:m+1<=P:=by rw[e];exact Nat.le_mul_of_pos_right _ Z
 have H:c.inc*((m+1:Nat):Int)<=1073741824*120:=Int.mul_le_mul h.2 Z Z Z;have a:0<=c.inc*((m+1:Nat):Int):=Int.mul_nonneg h.1 Z;rw[cR Z e,E,Int.mul_comm c.inc]at *;exact⟨rfl,⟨a,H⟩,Z,Z,Z⟩
theorem A0(a b:Curve)(k:a6 a)(K:a6 b)(h:bj a b<=120):q0e 179 [a.av,b.av,J (bj a b:Nat)] (J (aD a (bj a b)-aD b (bj a b))):=by
 obtain⟨c,d,e,f⟩:=Az k h (dN k K);obtain⟨l,L,g,i⟩:=Az K h (dt k K);refine' db func179 ntmps179 results179
 all_goals first|exact Γ (by rw[c,l])|exact bs|exact⟨Z,ε⟩
theorem J0(a b:Curve)(n:NrmC a)(N:NrmC b)(H:bj a b<=120):q0e 206 [a.av,b.av,J (bj a b:Nat)] (.bool (J7 a b)):=by
 have b1:=Jz a n;have B:=Jz b N;have p:=A0 a b (.inl n) (.inl N) H;unfold J7;by_cases h:aD b (bj a b)<aD a (bj a b)
 .rw[decide_eq_true h];refine ee func206 ntmps206 results206 λ_ _ _=>?_;repeat'(first|refine' ak|refine ab b1 ?_)
  all_goals first|exact Θ|exact Ξ (congrArg AV.bool (decide_eq_true Z))|(exfalso;omega)
 .rw[decide_eq_false h];refine ee func206 ntmps206 results206 λ_ _ _=>?_;repeat'(first|refine' ak|refine ab b1 ?_)
  all_goals first|exact Θ|exact Ξ (congrArg AV.bool (decide_eq_false Z))|(exfalso;omega)
theorem JA(a b:Curve)(N:NrmC a)(n:NrmC b)(h:bj a b<=120):q0e 254 [a.av,b.av,J (bj a b:Nat)] (J (pc a b:Nat)):=by
 have B:=Jz b n;have p:=N.per;have P:=n.per;have l:=N.st_le2;have L:=n.st_le2;have s:=Ft a Z Z;have S:=Ft b Z Z;refine' db func254 ntmps254 results254
 all_goals first|exact Γ (by unfold pc;omega)|exact bs
theorem MW(a b:Curve)(n:NrmC a)(N:NrmC b)(t u:Nat)(c:t+u<=10000):q0e 255 [a.av,b.av,J t,J u] (J (a.fn (t+u)-b.fn u)):=by
 have h:=n.lt (t:=t+u) Z;have H:=N.lt (t:=u) Z;have p:=c6 a (a6.wf (.inl n)) (t+u) Z;have P:=c6 b (a6.wf (.inl N)) u Z;rw[(Z:((t+u:Nat):Int)=(t:Int)+u)]at p;unfold cx at h H;refine' db func255 ntmps255 results255
 all_goals first|exact Θ|exact bs|(exfalso;omega)
theorem Hx(a b:Curve)(n:NrmC a)(N:NrmC b)(H:bj a b<=120)(t:Nat)(d:t<=5000):∃v,v=H7 a.fn b.fn t (pc a b)/\q0e 207 [a.av,b.av,J (bj a b:Nat),J t] (J v):=by
 have p:=JA a b n N H;have l:=n.st_le2;have L:=N.st_le2;have c:pc a b<=520:=by unfold pc;omega
 obtain⟨R,e⟩:∃R,R=pc a b:=⟨_,rfl⟩;rw[<-e]at p c⊢;refine dp func207 ntmps207 results207 ?_;repeat'(first|refine' aj|fail)
 all_goals try exact bs
 refine ae (ι:={u:Nat//u<=R}) [2,3,4,5] [4,5] [] ⟨0,χ _⟩ (λ⟨u,_⟩=>R-u) (λ⟨u,_⟩=>[(9,J (H7 a.fn b.fn t u)),(10,J u)]) (λ_=>[]) ?_ ?_
 .exact⟨⟨rfl,rfl⟩,bt,bt⟩
 .rintro⟨u,f⟩;conv=>whnf
  by_cases h:(u:Int)<R
  .have P:=MW a b n N t u Z;repeat'(first|(refine U h λhb=>?_;conv=>whnf)|(exact aI [] ⟨u+1,Z⟩)|refine' aj|fail)
   all_goals try exact bs
  .obtain rfl:u=R:=Z;repeat'(first|(refine M h λhb=>?_;conv=>whnf)|refine' aj|fail)
   all_goals try exact bs
   exact ag ⟨_,rfl,rfl⟩
theorem MV(a b:Curve)(n:NrmC a)(N:NrmC b)(h:bj a b<=120)(t:Nat)(H:t<=5000):q0e 207 [a.av,b.av,J (bj a b:Nat),J t] (J (lg a b t)):=by
 obtain⟨_,rfl,p⟩:=Hx a b n N h t H;exact p
theorem MT(a b:Curve)(N:NrmC a)(n:NrmC b)(H:b.fn 0=0):q0e 205 [a.av,b.av] (FQ (if bj a b<=120 then .ok (a,b,bj a b)else .error (some a,some b,3))):=by
 have p:=jW a b (.inl N) (.inl n);have z:=An n H;have P:=n.per;by_cases h:bj a b<=120
 .rw[if_pos h]at p⊢;refine' db func205 ntmps205 results205
  all_goals first|exact absurd z ‹_›|exact Θ|omega
 .rw[if_neg h]at p⊢;refine' db func205 ntmps205 results205
  all_goals first|exact absurd z ‹_›|exact Θ|omega
theorem Ni{a b:Curve}(n:NrmC a)(N:NrmC b)(f:b.fn 0=0)(g:bj a b<=120):WfG ⟨(List.range a.vals.length).map (lg a b),a.per,a.inc⟩/\∀t:Nat,Curve.at ⟨(List.range a.vals.length).map (lg a b),a.per,a.inc⟩ t=lg a b t:=by
 have p:=n.per;have w:WfC a:=a6.wf (.inl n);have d:=w.inc;have l:=w.per;have L:=n.st_le2;have o:=N.st_le2;have j:pc a b<=520:=by unfold pc;omega
 have h:∀t,t<a.vals.length->0<=lg a b t/\lg a b t<=36028797018963968:=λt c=>⟨Ez _ _ _ _,E0 Z λu m=>⟨by have:=n.bd (t+u);omega,(N.bd u).1⟩⟩;have H:((List.range a.vals.length).map (lg a b)).length=a.vals.length:=by simp
 refine⟨⟨by simp only[H];omega,by simp only[H];omega,by show 0<=a.inc/\a.inc<=1099511627776;omega,λv e=>?_⟩,λt=>?_⟩
 .simp only[List.mem_map,List.mem_range]at e;obtain⟨i,d,rfl⟩:=e;exact h i d
 .have:=fk (F:=lg a b) (k:=a.st) (x:=a.per.toNat) (st:=a.inc) Z (fun t c=>(Al n N f).2 t c) (fun t c=>by
   have:=h t (by unfold Curve.st at c;omega);unfold cx;omega) t
  rw[show a.st+a.per.toNat=a.vals.length by unfold Curve.st;omega,(Z:((a.per.toNat:Nat):Int)=a.per)]at this;exact this
theorem MU(a b:Curve)(n:NrmC a)(g:NrmC b)(l:b.fn 0=0):∃x,x=decX a b/\q0e 146 [a.av,b.av] (ax x):=by
 have P:=MT a b n g l;by_cases H:bj a b<=120
 .rw[if_pos H]at P;have m:=J0 a b n g H;rcases hl:J7 a b with _|_
  .rw[hl]at m;have s:=λt (r:t<=5000)=>MV a b n g H t r;obtain⟨f,h⟩:=Ni n g l H;obtain⟨x,_,_,c,p⟩:=cQ _ f;have c:=c λt=>by rw[h,h];exact wL n _ _ (Nat.le_succ t)
   have c:=HS a b H hl (c.of h);replace p:=p.le1 cz;have y:=n.per;obtain⟨N,E⟩:∃N,N=a.vals.length:=⟨_,rfl⟩;have o:(a.vals.length:Int)=(N:Nat):=Z;have u:N<=400:=Z;rw[<-E]at p;clear f h;rcases x with e|z;all_goals
    refine dp func146 ntmps146 results146 ?_;repeat'(first|refine' aj|fail)
    all_goals try exact bs
    refine⟨aV (λ_ _ _=>mK 10 0 100 1 3 rfl rfl rfl rfl) (ae (ι:={j:Nat//j<=N}) [4,6,7,8,10] [4,6,7] [] ⟨0,χ _⟩ (λ⟨j,_⟩=>N-j) (λ⟨j,_⟩=>[(11,J j)]) (λ⟨j,_⟩=>[(10,some (.box [.osl 100 j,J a.per,J a.inc])),(100,some (.arr j 1 (λi=>[J (lg a b i)]) 3))]) ?_ ?_).good⟩
    .refine⟨⟨rfl,rfl⟩,?_,?_⟩;all_goals((refine' subP)<;>first|exact fl rfl (ψ)|exact bt)
    .rintro⟨j,v⟩;conv=>whnf
     by_cases d:(j:Int)<a.vals.length
     .have w:=s j Z;repeat'(first|(refine U d λhb=>?_;conv=>whnf)|(refine' aO [(100,50)] ⟨j+1,Z⟩<;>first|exact fl rfl λi k=>cr (G:=lg a b) (X:=λi=>List.take ti3.size (List.drop (i*ti3.size) (mg (0*ti3.size) (J (lg a b j)).cellsL (f0 1 ti3.zero)))) rfl k|exact bt)|refine' aj|fail)
      all_goals try first|exact bs|exact⟨π _,aL Z rfl⟩
     .obtain rfl:j=N:=Z;repeat(refine fg ?_;conv=>whnf)
      refine aa (λhb=>absurd hb d) (λhb=>?_);conv=>whnf
      refine a7 100 rfl rfl (λ_ _=>rfl) ?_ ?_ ?_
      .all_goals try refine' frzZ
      .all_goals try refine' frzZ
      conv=>whnf
      repeat'(first|refine' aj|fail)
      first|exact ag ⟨.error e,rfl,c⟩|exact ag ⟨.ok z,rfl,c⟩
  .rw[hl]at m;have q:decX a b=.ok cInf:=by unfold decX;rw[if_pos H,if_pos (of_decide_eq_true hl)]
   rw[q];refine dp func146 ntmps146 results146 ?_;repeat'(first|refine' aj|fail)
   all_goals try exact bs
   refine aW [4,5] [] [] [] [(4,some (.box [.osl 28 1,J 1,J 0])),(28,some (.arr 1 1 (λ_=>[J cx]) 3))] ⟨⟨rfl,rfl⟩,?_,?_⟩ (aX 28 rfl rfl (λ_ _=>rfl) ?_ ?_ (bO ?_))
   .skip;all_goals((refine' subP)<;>first|exact fl rfl (λi k=>(by obtain rfl:i=0:=Z;rfl))|exact bt)
   .skip;all_goals exact bt
   .all_goals try refine' frzZ
   .all_goals try refine' frzZ
   .conv=>whnf
    exact⟨.ok cInf,AvLe.tup (.cons (AvLe.agg (.cons (kd rfl λi k=>(by obtain rfl:i=0:=Z;rfl)) (.cons Θ (.cons Θ .nil)))) (.cons Θ .nil)),rfl⟩
 .rw[if_neg H]at P;rw[show decX a b=.error 3 from if_neg H];refine dp func146 ntmps146 results146 ?_;repeat'(first|refine' aj|fail)
  exact ag ⟨.error 3,rfl,rfl⟩
theorem Pt(a b:Curve)(n:NrmC a)(N:NrmC b)(h:b.fn 0=0):q0e 146 [a.av,b.av] (ax (decX a b)):=by
 obtain⟨_,rfl,p⟩:=MU a b n N h;exact p
theorem MX(x y:Int):q0e 256 [J x,J y,.bool true] (J (min x y)):=by
 refine' db func256 ntmps256 results256
 all_goals exact Θ
theorem A1{G:Nat->Int}{P:Nat}{g:Int}(c:1<=P/\P<=120)(e:0<=g/\g<=1099511627776)(hb:∀t,t<400+P->0<=G t/\G t<=36028797018963968)(j:∀s t:Nat,s<=t->G s<=G t)(r:∀t,400<=t->G (t+P)=G t+g) :
  ∃x,CanQ G x/\q0e 99 [.agg [.isl (400+P) 1 (λi=>[J (G i)]),J P,J g]] (ax x):=by
 have H:((List.range (400+P)).map G).length=400+P:=by simp
 have a:WfG ⟨(List.range (400 + P)).map G,P,g⟩:=⟨by simp only[H];omega,by simp only[H];omega,e,fun v b=>by
  simp only[List.mem_map,List.mem_range]at b;obtain⟨i,f,rfl⟩:=b;exact hb i f⟩
 have h:∀t:Nat,Curve.at ⟨(List.range (400+P)).map G,P,g⟩ t=G t:=λt=>fk c.1 r (λt k=>by have:=hb t k;unfold cx;omega) t;obtain⟨x,_,_,d,p⟩:=cQ _ a;exact⟨x,(d λt=>by rw[h,h];exact j _ _ (Nat.le_succ t)).of h,p.le1 cz⟩
def KU(a b:Curve)(t:Nat):Prop:=¬(aD a (bj a b)-aD b (bj a b)<0/\a.fn t-b.fn t>0)/\¬(aD a (bj a b)-aD b (bj a b)>0/\a.fn t-b.fn t<0)
theorem LU{a b:Curve}(h:J3 a b){t:Nat}(H:400<=t)(c:t<400+bj a b):KU a b t:=by
 unfold KU;rcases h with h|⟨h,k⟩|⟨h,k⟩
 .omega
 .have:=k t H c;omega
 .have:=k t H c;omega
theorem Lc{a b:Curve}(h:∀t,400<=t->t<400+bj a b->KU a b t):J3 a b:=by
 rcases Int.lt_trichotomy (aD a (bj a b)) (aD b (bj a b))with g|g|g
 .exact .inr (.inl ⟨g,λt H c=>by have:=h t H c;unfold KU at this;omega⟩)
 .exact .inl g
 .exact .inr (.inr ⟨g,λt H c=>by have:=h t H c;unfold KU at this;omega⟩)
theorem Hy{a b:Curve}(n:NrmC a)(N:NrmC b)(H:bj a b<=120)(c:J3 a b):∀t,400<=t->iR a b (t+bj a b)=iR a b t+(if aD a (bj a b)-aD b (bj a b)>0 then aD b (bj a b)else aD a (bj a b)):=by
 have p:=iT n N H;have l:=n.st_le2;have L:=N.st_le2;have r:=p.ra.late (s':=400) l;have R:=p.rb.late (s':=400) L;intro t h;have e:=r.2 t h;have f:=R.2 t h;rcases c with g|⟨g,k⟩|⟨g,k⟩
 .rw[if_neg Z];unfold iR;omega
 .have K:=qI r R Z (π _) k _ t (π _) h;have d:=qI r R Z (π _) k _ (t+bj a b) (π _) Z;rw[if_neg Z];unfold iR;omega
 .have K:=qI R r Z (π _) k _ t (π _) h;have d:=qI R r Z (π _) k _ (t+bj a b) (π _) Z;rw[if_pos Z];unfold iR;omega
theorem JB(a b:Curve)(N:NrmC a)(h0:a.fn 0=0)(hb:b=au 0\/NrmC b):∃x,x=mu a b/\q0e 208 [a.av,b.av,.bool true] (ax x):=by
 have k:a6 a:=.inl N;have K:a6 b:=hb.elim (λe=>e▸ .inr ⟨0,η,rfl⟩) .inl;have V:=jW a b k K;by_cases f:bj a b<=120
 .rw[if_pos f]at V;have f1:=m8 k;have W:=m8 K;rw[N.finB]at f1;obtain⟨r,L,_,O⟩:=Az k f (dN k K);obtain⟨w,Q,_,R⟩:=Az K f (dt k K);have ps:=A0 a b k K f;have y:=j6 k K;have pn:∀t:Nat,t<=1000->ah (a.fn t-b.fn t)\/¬NrmC b:=λt A=>by
   by_cases n:NrmC b
   .have d:=N.lt (t:=t) Z;have q:=n.lt (t:=t) Z;unfold cx at d q;exact .inl ε
   .exact .inr n
  obtain⟨G,hG,hT⟩:∃G:Nat->Int,(∀t,t<=1000->min (a.fn t) (b.fn t)=G t)/\((finB b=false/\∃x,x=mu a b/\q0e 99 [.agg [.isl (400+bj a b) 1 (λi=>[J (G i)]),J (bj a b:Nat),J (aD a (bj a b))]] (ax x))\/(NrmC b/\G=iR a b)):=by
   rcases hb with rfl|n
   .refine⟨a.fn,λt A=>?_,.inl ⟨dM,?_⟩⟩
    .have d:=N.lt (t:=t) Z;rw[ce η];unfold wF;split
     .obtain rfl:t=0:=Z;rw[h0];rfl
     .omega
    .have E:bj a (au 0)=a.per.toNat:=cS a 0;have pa:=k.per;obtain⟨x,H,p⟩:=A1 (G:=a.fn) (P:=bj a (au 0)) (g:=aD a (bj a (au 0))) Z Z (λt A=>by have:=N.bd t;omega) (λs t h=>N.mono h) (λt A=>(N.rep_of (dN k K)).2 t (by have:=N.st_le2;omega));obtain rfl:=H.unique N.can;exact⟨.ok a,(HU a).symm,p⟩
   .exact⟨iR a b,λ_ _=>rfl,.inr ⟨n,rfl⟩⟩
  obtain⟨P,E⟩:∃P,P=bj a b:=⟨_,rfl⟩;have B:=λh t d q=>LU (a:=a) (b:=b) h (t:=t) d q;have C:=Lc (a:=a) (b:=b);have D:=λn:NrmC b=>Hy N n f;unfold KU at B C;rw[<-E]at V f r L O w Q R ps y hT B C D;refine dp func208 ntmps208 results208 ?_;repeat'(first|refine' aj|fail)
  all_goals try exact bs
  refine⟨aV (λ_ _ _=>mK 12 0 100 1 3 rfl rfl rfl rfl) (ae (ι:={j:Nat//j<=400+P}) [2,6,8,9,10,12] [6,8,9] [] ⟨0,χ _⟩ (λ⟨j,_⟩=>400+P-j) (λ⟨j,_⟩=>[(13,J j)]) (λ⟨j,_⟩=>[(12,some (.box [.osl 100 j,J P,J (aD a P)])),(100,some (.arr j 1 (λi=>[J (G i)]) 3))]) ?_ ?_).good⟩
  .refine⟨⟨rfl,rfl⟩,?_,?_⟩;all_goals((refine' subP)<;>first|exact fl rfl (ψ)|exact ObLe.box (.cons Θ (.cons Θ (.cons (Γ r) .nil)))|exact bt)
  .rintro⟨j,hj⟩;conv=>whnf
   by_cases v:(j:Int)<400+P
   .have p3:=c6 a k.wf j Z;have p4:=c6 b K.wf j Z;have p5:=MX (a.fn j) (b.fn j);rw[hG j Z]at p5;repeat'(first|(refine U v λhb=>?_;conv=>whnf)|(refine' aO [(100,55)] ⟨j+1,Z⟩<;>first|exact fl rfl λi hi=>cr (G:=G) (X:=λi=>List.take ti3.size (List.drop (i*ti3.size) (mg (0*ti3.size) (J (G j)).cellsL (f0 1 ti3.zero)))) rfl hi|exact bt)|refine' aj|fail)
    all_goals try first|exact bs|exact⟨π _,aL Z rfl⟩
   .obtain rfl:j=400+P:=Z;repeat(refine fg ?_;conv=>whnf)
    refine Side.mk ε ?_;conv=>whnf
    repeat(refine fg ?_;conv=>whnf)
    refine aa (λhb=>absurd hb v) (λhb=>?_);conv=>whnf
    refine a7 100 rfl rfl (λ_ _=>rfl) ?_ ?_ ?_
    .all_goals try refine' frzZ
    .all_goals try refine' frzZ
    conv=>whnf
    rcases hT with⟨hf,x,H,I⟩|⟨n,rfl⟩
    .rw[hf]at W;rcases x with e|z;all_goals
      repeat'(first|refine' aj|fail)
      first|exact ag ⟨.error e,rfl,H⟩|exact ag ⟨.ok z,rfl,H⟩|exact absurd (decide_eq_true m).symm ‹_›|exact absurd (of_decide_eq_true (Eq.symm ‹_›)) m
    .rw[n.finB]at W;repeat'(first|refine' aj|fail)
     all_goals try exact bs
     refine ae (ι:={t:Nat//t<=400+P/\400<=t/\∀s,400<=s->s<t->KU a b s}) [2,6,8,9,10,12,14] [6,8,9,12] [] ⟨400,Z,π _,λs d q=>Z⟩ (λ⟨t,_⟩=>400+P-t) (λ⟨t,_⟩=>[(15,J t)]) (λ_=>[]) ?_ ?_
     .exact⟨⟨rfl,rfl⟩,bt,bt⟩
     .rintro⟨t,A,h4,hs⟩;conv=>whnf
      by_cases l:(t:Int)<400+P
      .have p3:=c6 a k.wf t Z;have p4:=c6 b K.wf t Z;have u:=(pn t Z).resolve_right λh=>h n;by_cases F:KU a b t
       .have S:∀s,400<=s->s<t+1->KU a b s:=λs d q=>(ξ s t).elim (hs s d) λh=>by(obtain rfl:s=t:=Z);exact F
        have c:=F;unfold KU at c;rw[<-E]at c;repeat'(first|(refine U l λhb=>?_;conv=>whnf)|(exact aI [] ⟨t+1,Z,Z,S⟩)|refine' aj|fail)
        all_goals try first|exact u|exact bs|(exfalso;omega)
       .have H:(Except.error 3:Except Int Curve)=mu a b:=(uH n λh=>F (LU h.2 h4 Z)).symm;have c:=F;unfold KU at c;rw[<-E]at c;repeat'(first|(refine U l λhb=>?_;conv=>whnf)|refine' aj|fail)
        all_goals try first|exact u|exact bs|exact ag ⟨.error 3,rfl,H⟩|(exfalso;omega)
      .have o:J3 a b:=Lc λs d q=>hs s d Z;obtain⟨x,H,I⟩:=A1 (G:=iR a b) (P:=P) (g:=if aD a P-aD b P>0 then aD b P else aD a P) Z (by split<;>omega) (λt A=>qJ N n Z) (wM N n) (D n o);have H:=uG n Z o H;by_cases m:aD a P-aD b P>0
       .rw[if_pos m]at I;rcases x with e|z;all_goals
         repeat'(first|(refine M l λhb=>?_;conv=>whnf)|(refine fg ?_;conv=>whnf)|(refine aa (λhb=>?_) (λhb=>?_)<;>conv=>whnf)|(refine aq (λhb=>?_) (λhb=>?_)<;>conv=>whnf)|(refine Side.mk ?_ ?_;rotate_left;conv=>whnf)|(refine SubS.mk ?_ ?_;rotate_left;conv=>whnf)|(refine VCells.mk ⟨_,rfl,?_⟩;conv=>whnf)|(refine DrawOk.mk ⟨rfl,rfl⟩ ?_;conv=>whnf)|(rw[w];conv=>whnf)|(refine am (I) ?_;conv=>whnf)|(refine aA (λhb=>?_) (λhb=>?_)<;>conv=>whnf))
         all_goals try first|exact bs|exact ag ⟨.error e,rfl,H⟩|exact ag ⟨.ok z,rfl,H⟩|exact absurd (decide_eq_true m).symm ‹_›|exact absurd (of_decide_eq_true (Eq.symm ‹_›)) m
       .rw[if_neg m]at I;rcases x with e|z;all_goals
         repeat'(first|(refine M l λhb=>?_;conv=>whnf)|refine' aj|fail)
         all_goals try first|exact bs|exact ag ⟨.error e,rfl,H⟩|exact ag ⟨.ok z,rfl,H⟩|exact absurd (decide_eq_true m).symm ‹_›|exact absurd (of_decide_eq_true (Eq.symm ‹_›)) m
 .rw[if_neg f]at V;have e3:mu a b=.error 3:=by
   rcases hb with rfl|n
   .exact absurd (by rw[cS a 0];exact(k.per).2.1) f
   .exact uH n λh=>f h.1
  refine dp func208 ntmps208 results208 ?_;repeat'(first|refine' aj|fail)
  all_goals try exact bs
  exact ag ⟨.error 3,rfl,e3.symm⟩
theorem OF(a b:Curve)(n:NrmC a)(h:a.fn 0=0)(hb:b=au 0\/NrmC b):q0e 147 [a.av,b.av] (ax (mu a b)):=by
 obtain⟨x,H,p⟩:=JB a b n h hb;rw[<-H];rcases x with e|c;all_goals
  refine' db func147 ntmps147 results147
  all_goals exact Θ
end Go.Nc