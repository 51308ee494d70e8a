/- Merged: SM2, SA1, KP, LK1. -/
import Derived.Test.YtnnpilpjbjbafaaGreatNcAMB
import Derived.Test.YtnnpilpjbjbafaaGreatNcOWA
import Derived.Test.YtnnpilpjbjbafaaGreatNcAMA
import Derived.Test.YtnnpilpjbjbafaaGreatNcRMA
import Derived.Test.YtnnpilpjbjbafaaGreatNcKA
import Derived.Test.YtnnpilpjbjbafaaGreatNcRWX
import Derived.Test.YtnnpilpjbjbafaaGreatNcBS
import Derived.Test.YtnnpilpjbjbafaaGreatNcKC
namespace Go.Nc
open Go.Proofs.Tryz
open Go.Proofs
theorem A4 (a:Line) (h:Fit a.weights/\Fit a.slots):q0d 81 [a.av,a.av] (.bool true):=by
 obtain ⟨h1,h2⟩:=h
 unfold Fit at h1 h2
 obtain ⟨r,h,p⟩:=Cu a a ω ω
 obtain rfl:=h.2 rfl
 exact p
theorem A5 (a:Flow) (h:Fit a.route/\Fit a.con.vals):q0d 82 [a.av,a.av] (.bool true):=by
 obtain ⟨h1,h2⟩:=h
 unfold Fit at h1 h2
 obtain ⟨r,h,p⟩:=wn a a ω ω
 obtain rfl:=h.2 rfl
 exact p
theorem A6 (a:Prom) (h:Fit a.flow.route/\Fit a.flow.con.vals):q0d 70 [a.av,a.av] (.bool true):=by
 obtain ⟨h1,h2⟩:=h
 unfold Fit at h1 h2
 obtain ⟨r,h,p⟩:=Cv a a ω ω
 obtain rfl:=h.2 rfl
 exact p
structure NetFit (n:Net):Prop where
 names:n.names.length <= 1000000
 lines:n.lines.length <= 1000000
 line:∀ i,i < n.lines.length -> Fit (n.lines.getD i default).weights/\Fit (n.lines.getD i default).slots
 flows:n.flows.length <= 1000000
 flow:∀ i,i < n.flows.length -> Fit (n.flows.getD i default).route/\Fit (n.flows.getD i default).con.vals
set_option maxHeartbeats 2000000 in
theorem Cw (n:Net) (h:NetFit n):∃ r:Bool,r = true/\q0d 27 [n.av,n.av] (.bool r):=by
 obtain ⟨h1,h2,h3,h4,h5⟩:=h
 refine opE func27 ntmps27 results27 ?_
 repeat' (first|(refine ao (fun hb=>absurd rfl hb) (fun hb=>?_);conv=>whnf)|refine' ah | fail)
 all_goals try exact ariB
 refine ag (ι:={i:Nat // i <= n.names.length}) [2,3] [2,3] [] ⟨0,π _⟩ (fun ⟨i,_⟩=>n.names.length - i) (fun ⟨i,_⟩=>[(5,.int .i64 i)]) (fun _=>[]) ?_ ?_
 ·exact ⟨⟨rfl,rfl⟩,sq1,sq1⟩
 ·rintro ⟨i,hi⟩
  conv=>whnf
  by_cases hil:(i:Int) < n.names.length
  ·skip
   repeat' (first|(refine aa (fun hb=>?_) (fun hb=>absurd hil hb);conv=>whnf)|(exact aD [] ⟨i + 1,ω⟩)|refine' ah | fail)
   all_goals try exact ariA
   all_goals (exfalso;simp at hb)
  ·skip
   repeat' (first|(refine aa (fun hb=>absurd hb hil) (fun hb=>?_);conv=>whnf)|refine' ah | fail)
   all_goals try exact ariA
   refine ag (ι:={i:Nat // i <= n.lines.length}) [2,3] [2,3] [] ⟨0,π _⟩ (fun ⟨i,_⟩=>n.lines.length - i) (fun ⟨i,_⟩=>[(6,.int .i64 i)]) (fun _=>[]) ?_ ?_
   ·exact ⟨⟨rfl,rfl⟩,sq1,sq1⟩
   ·rintro ⟨j,hj⟩
    conv=>whnf
    by_cases hjl:(j:Int) < n.lines.length
    ·have p1:=A4 (n.lines.getD (j:Int).toNat default) (h3 j ω)
     repeat' (first|(refine aa (fun hb=>?_) (fun hb=>absurd hjl hb);conv=>whnf)|(exact aD [] ⟨j + 1,ω⟩)|refine' ah|(refine ab p1 ?_))
     all_goals try exact ariA
    ·skip
     repeat' (first|(refine aa (fun hb=>absurd hb hjl) (fun hb=>?_);conv=>whnf)|refine' ah | fail)
     all_goals try exact ariA
     refine ag (ι:={i:Nat // i <= n.flows.length}) [2,3] [2,3] [] ⟨0,π _⟩ (fun ⟨i,_⟩=>n.flows.length - i) (fun ⟨i,_⟩=>[(7,.int .i64 i)]) (fun _=>[]) ?_ ?_
     ·exact ⟨⟨rfl,rfl⟩,sq1,sq1⟩
     ·rintro ⟨k,hk⟩
      conv=>whnf
      by_cases hkl:(k:Int) < n.flows.length
      ·have p1:=A5 (n.flows.getD (k:Int).toNat default) (h5 k ω)
       repeat' (first|(refine aa (fun hb=>?_) (fun hb=>absurd hkl hb);conv=>whnf)|(exact aD [] ⟨k + 1,ω⟩)|refine' ah|(refine ab p1 ?_))
       all_goals try exact ariA
      ·skip
       repeat' (first|(refine aa (fun hb=>absurd hb hkl) (fun hb=>?_);conv=>whnf)|refine' ah | fail)
       all_goals try exact ariA
       exact ae ⟨true,rfl,rfl⟩
theorem A7 (d:List (List Int)) (hl:d.length <= 1000000) (hr:∀ i,i < d.length -> Fit (d.getD i [])):∃ r:Bool,r = true/\q0d 17 [a6 d,a6 d] (.bool r):=by
 refine opE func17 ntmps17 results17 ?_
 repeat' (first|(refine ao (fun hb=>absurd rfl hb) (fun hb=>?_);conv=>whnf)|refine' ah | fail)
 all_goals try exact ariB
 refine ag (ι:={i:Nat // i <= d.length}) [0,1] [] [] ⟨0,ω⟩ (fun ⟨i,_⟩=>d.length - i) (fun ⟨i,_⟩=>[(5,.int .i64 i)]) (fun _=>[]) ?_ ?_
 ·exact ⟨⟨rfl,rfl⟩,sq1,sq1⟩
 ·rintro ⟨i,hi⟩
  conv=>whnf
  by_cases hil:(i:Int) < d.length
  ·have hf:=hr (i:Int).toNat ω
   unfold Fit at hf
   obtain ⟨r,h1,p1⟩:=ia (d.getD (i:Int).toNat []) (d.getD (i:Int).toNat []) ω
   obtain rfl:=h1.2 rfl
   repeat' (first|(refine aa (fun hb=>?_) (fun hb=>absurd hil hb);conv=>whnf)|(exact aD [] ⟨i + 1,ω⟩)|refine' ah|(refine ab p1 ?_))
   all_goals try exact ariA
  ·skip
   repeat' (first|(refine aa (fun hb=>absurd hb hil) (fun hb=>?_);conv=>whnf)|refine' ah | fail)
   all_goals try exact ariA
   exact ae ⟨true,rfl,rfl⟩
theorem DR (p:Plan) (h:PlanFit p):NetFit p.net:=by
 refine ⟨h.names,h.lines,h.line,?_,fun i hi=>?_⟩
 ·show (p.proms.map Prom.flow).length <= _
  rw [List.length_map];exact h.proms
 ·rw [mP p]
  exact h.prom i (by have hi:i < (p.proms.map Prom.flow).length:=hi
                     rwa [List.length_map] at hi)
set_option maxHeartbeats 2000000 in
theorem A8 (p:Plan) (h:PlanFit p):∃ r:Bool,r = true/\q0d 22 [p.av,p.av] (.bool r):=by
 obtain ⟨_,_,p1⟩:=As p h.proms
 obtain ⟨_,rfl,p2⟩:=Cw p.net (DR p h)
 obtain ⟨_,rfl,p3⟩:=A7 p.dels h.dels h.del
 have hl:=h.proms
 refine opE func22 ntmps22 results22 ?_
 repeat' (first|(refine ao (fun hb=>absurd rfl hb) (fun hb=>?_);conv=>whnf)|refine' ah|(refine ab p1 ?_)|(refine ab p2 ?_)|(refine ab p3 ?_))
 all_goals try exact ariB
 refine ag (ι:={i:Nat // i <= p.proms.length}) [2,3] [2,3] [] ⟨0,π _⟩ (fun ⟨i,_⟩=>p.proms.length - i) (fun ⟨i,_⟩=>[(5,.int .i64 i)]) (fun _=>[]) ?_ ?_
 ·exact ⟨⟨rfl,rfl⟩,sq1,sq1⟩
 ·rintro ⟨i,hi⟩
  conv=>whnf
  by_cases hil:(i:Int) < p.proms.length
  ·have p4:=A6 (p.proms.getD (i:Int).toNat default) (h.prom i ω)
   repeat' (first|(refine aa (fun hb=>?_) (fun hb=>absurd hil hb);conv=>whnf)|(exact aD [] ⟨i + 1,ω⟩)|refine' ah|(refine ab p4 ?_))
   all_goals try exact ariA
  ·skip
   repeat' (first|(refine aa (fun hb=>absurd hb hil) (fun hb=>?_);conv=>whnf)|refine' ah | fail)
   all_goals try exact ariA
   exact ae ⟨true,rfl,rfl⟩
theorem lt1P {p:Nat -> Prop} (h0:p 0):∀ i,i < 1 -> p i:=fun i hi=>by
 obtain rfl:i = 0:=ω
 exact h0
def lnB (cap:Int):Line:=⟨1,cap,1,[],[]⟩
theorem A9:∃ _:Unit,True/\q0d 54 [] (slc 5 Line.cells default [lnB 10]):=by
 refine opE func54 ntmps54 results54 ?_
 repeat' (first|refine' ah | fail)
 refine aT [0] [] [] [] [(2,some (.arr 1 5 (eget Line.cells default [lnB 10]) 93))] ⟨⟨rfl,rfl⟩,?_,?_⟩ (b7 2 rfl rfl (fun _ _=>rfl) ?_ ?_ (b5 ?_))
 ·skip
  all_goals ((refine' subP)<;>first|exact Ax (lt1P (.cons Ψ (.cons Ψ (.cons Ψ (.cons AvLe.nils (.cons AvLe.nils .nil))))))|exact sq1)
 ·skip
  all_goals exact sq1
 ·all_goals try refine' frzZ
 ·all_goals try refine' frzZ
 ·exact ⟨(),Ψ,trivial⟩
theorem sG (v:Int):∃ _:Unit,True/\q0c 55 [.int .i64 v] [] (w39 v).av []:=by
 have p0:=nK 100 1 0 φ φ
 refine opE func55 ntmps55 results55 ?_
 repeat' (first|refine' ah|(refine ab p0 ?_))
 refine aT [2] [] [] [] [(2,some (.box [.str nf,.osl 3 1,.int .i64 0,.int .i64 1,.int .i64 100,ints [0,100],.int .i64 1,.int .i64 0,.int .i64 v,.int .i64 0])),(3,some (.arr 1 1 (eget encI 0 [0]) 3))] ⟨⟨rfl,rfl⟩,?_,?_⟩ (b7 3 rfl rfl (fun _ _=>rfl) ?_ ?_ (b5 ?_))
 ·skip
  all_goals ((refine' subP)<;>first|exact q0b rfl (lt1P rfl)|exact sq1)
 ·skip
  all_goals ((refine' subP)<;>first|exact q0b rfl (lt1P rfl)|exact sq1)
 ·all_goals try refine' frzZ
 ·all_goals try refine' frzZ
 ·exact ⟨(),Ψ,trivial⟩
theorem AA {n:Net} {d:List (List Int)} {i:Int} {v:Int} (h:endX n d i = some v):0 <= v:=by
 unfold endX at h
 split at h
 ·rename_i hc
  obtain ⟨hf,h0,h1⟩:=hc
  obtain ⟨⟨hn,_⟩,hs⟩:=hf
  obtain ⟨i,rfl⟩:=γ h0
  have hfo:FlowOk n.lines (n.flows.getD (i:Int).toNat default):=hn.flow _ (cF default ω)
  have hne:=hfo.ne
  have:=r8 (fun z hz=>?_) h
  ·omega
  ·have g1:=hfo.lines z hz
   have g2:=hfo.cls2 z hz
   have g3:=hs.row z.toNat ω
   have g4:=hfo.cls
   exact (hs.val z.toNat (n.flows.getD (i:Int).toNat default).class_.toNat ω ω).2
 ·cases h
theorem AB (v:Int):iU (w39 v):=⟨by show Fit [0];unfold Fit;decide,by show Fit [0,100];unfold Fit;decide⟩
theorem AC:PlanFit (newP [⟨#[97]⟩] [lnB 10] []):=⟨φ,φ,lt1P ⟨by unfold Fit;decide,by unfold Fit;decide⟩,φ,ν,φ,ν⟩
set_option maxHeartbeats 1000000 in
theorem AD:q0d 11 [] (.bool true):=by
 obtain ⟨_,_,p0⟩:=A9
 obtain ⟨_,_,w9⟩:=sG 9
 obtain ⟨_,_,w8⟩:=sG 8
 obtain ⟨e0,h0⟩:=sA (cap:=10) φ
 obtain ⟨_,rfl,p1⟩:=CL [⟨#[97]⟩] [lnB 10] AC
 rw [show newX [⟨#[97]⟩] [lnB 10] = _ from e0] at p1
 obtain ⟨_,rfl,p2⟩:=qw _ h0.ok.fit φ (w39 9) (AB 9)
 rw [uA] at p2
 obtain ⟨_,rfl,p3⟩:=qw _ h0.ok.fit φ (w39 8) (AB 8)
 rw [DK] at p3
 obtain ⟨_,rfl,p4⟩:=uH _ iV.fit nf (fun i v hi hv=>by
  obtain ⟨w,hw,hle⟩:=(iV.prom i hi).2
  rw [hw] at hv
  cases hv
  have:=(iV.prom i hi).1.1
  have hw0:=AA hw
  unfold aj
  omega)
 rw [DM] at p4
 obtain ⟨_,rfl,p5⟩:=sF _ iV.fit φ nf
 rw [DL] at p5
 obtain ⟨_,rfl,p6⟩:=A8 _ h0.ok.fit
 obtain ⟨_,rfl,p7⟩:=jD _ iV.fit
 rw [bI.2 iV] at p7
 refine opG func11 ntmps11 results11 fun w0 Im0 ρ0=>?_
 repeat' (first|refine' ak|(refine ab p0 ?_)|(refine ab w9 ?_)|(refine ab w8 ?_)|(refine bc [] [_] p1 rfl ?_ ?_ ?_ ?_;rotate_left;rotate_left;rotate_left;conv=>whnf)|(refine ab p2 ?_)|(refine ab p3 ?_)|(refine ab p4 ?_)|(refine ab p5 ?_)|(refine ab p6 ?_)|(refine ab p7 ?_))
 ·exact Ψ
 ·exact ξ _
 ·exact lt1P rfl
 ·exact lt1P rfl
theorem DS (s:Rd) (hs:s.ok) (f:Flow):∃ (d p:Int) (s':Rd),(0 <= d/\d <= 2000)/\(0 <= p/\p <= 3)/\s'.ok/\q0c 15 [.lptr 900 0,f.av] [(900,s.ob)] (Prom.av ⟨f,d,p⟩) [(900,s'.ob)]:=by
 obtain ⟨d,s1,hd,o1,p1⟩:=Af s hs [0,2,4,8,16,40,400,2000] η η
 obtain ⟨p,s2,_,hp,o2,p2⟩:=n_at s1 o1 4 ω ω
 simp only [List.mem_cons,List.not_mem_nil,or_false] at hd
 refine ⟨d,p,s2,ω,ω,o2,?_⟩
 refine opG func15 ntmps15 results15 (fun w0 Im0 ρ0=>?_) (hcl:=⟨rfl,rfl,rfl,aO rfl,aO rfl,rfl⟩)
 repeat' (first|refine' cP|(refine cU [.lptr 900 0] [] p1 rfl rfl rfl (ξ _) ?_ ?_ ?_;rotate_left;rotate_left;conv=>whnf)|(refine be p2 ?_))
 all_goals first|exact Ψ|rfl|exact aZ (by repeat' (first|exact True.intro|rfl|refine And.intro ?_ ?_))
theorem DT (s:Rd):∃ b:Bool,True/\q0c 39 [.lptr 900 0] [(900,s.ob)] (.bool b) [(900,s.ob)]:=by
 refine ⟨decide ((s.pos:Int) < s.l.length),trivial,?_⟩
 refine opG func39 ntmps39 results39 (fun w0 Im0 ρ0=>?_) (hcl:=⟨rfl,rfl,rfl,aO rfl,aO rfl,rfl⟩)
 repeat' (first|refine' cP | fail)
 all_goals first|exact Ψ|rfl
def ReqQ (l:List Flow) (k:Int) (x:Prom):Prop:=(l = []/\k = 2/\x = default) \/ ((k = 1 \/ k = 2 \/ k = 3)/\x.flow ∈ l/\(0 <= x.dead/\x.dead <= 2000)/\0 <= x.prio/\x.prio <= 3)
theorem req_at (s:Rd) (hs:s.ok) (l:List Flow) (hl:l.length <= 1000):∃ (k:Int) (x:Prom) (s':Rd),ReqQ l k x/\s'.ok/\q0c 30 [.lptr 900 0,slc 8 Flow.cells default l] [(900,s.ob)] (.agg (.int .i64 k :: x.cells)) [(900,s'.ob)]:=by
 by_cases h0:(l.length:Int) = 0
 ·refine ⟨2,default,s,.inl ⟨List.eq_nil_of_length_eq_zero ω,rfl,rfl⟩,hs,?_⟩
  refine opG func30 ntmps30 results30 (fun w0 Im0 ρ0=>?_) (hcl:=⟨rfl,rfl,rfl,aO rfl,aO rfl,rfl⟩)
  repeat' (first|(refine aa (fun hb=>?_) (fun hb=>absurd h0 hb);conv=>whnf)|refine' cP | fail)
  all_goals first|rfl|exact AvLe.agg (.cons Ψ (.cons Ψ (.cons AvLe.nils (.cons Ψ (.cons Ψ (.cons Ψ (.cons AvLe.nils (.cons Ψ (.cons Ψ (.cons Ψ (.cons Ψ .nil)))))))))))
 ·obtain ⟨k,s1,hk,o1,p1⟩:=Af s hs [1,1,1,2,3] η η
  obtain ⟨i,s2,_,hi,o2,p2⟩:=n_at s1 o1 l.length ω ω
  obtain ⟨d,p,s3,hd,hp,o3,p3⟩:=DS s2 o2 (l.getD i.toNat default)
  simp only [List.mem_cons,List.not_mem_nil,or_false] at hk
  refine ⟨k,⟨l.getD i.toNat default,d,p⟩,s3,.inr ⟨ω,(by simp [(ω:i.toNat < l.length)]),hd,hp⟩,o3,?_⟩
  refine opG func30 ntmps30 results30 (fun w0 Im0 ρ0=>?_) (hcl:=⟨rfl,rfl,rfl,aO rfl,aO rfl,rfl⟩)
  repeat' (first|(refine aa (fun hb=>absurd hb h0) (fun hb=>?_);conv=>whnf)|refine' cP|(refine cU [.lptr 900 0] [] p1 rfl rfl rfl (ξ _) ?_ ?_ ?_;rotate_left;rotate_left;conv=>whnf)|(refine be p2 ?_)|(refine be p3 ?_))
  all_goals first|exact Ψ|rfl|omega|exact aZ (by repeat' (first|exact True.intro|rfl|refine And.intro ?_ ?_))
theorem DU {n:Net} (hN:NetOk n) {k:Int} {x:Prom} (h:ReqQ n.flows k x):(k = 1 \/ k = 2 \/ k = 3)/\iU x:=by
 rcases h with ⟨_,rfl,rfl⟩ | ⟨h1,h2,_⟩
 ·exact ⟨.inr (.inl rfl),by show Fit [];unfold Fit;decide,by show Fit [];unfold Fit;decide⟩
 ·exact ⟨h1,we (hN.flow _ h2)⟩
theorem PlanOk.len {p:Plan} (h:PlanOk p):p.proms.length <= 10:=by
 have:=h.net.flen
 rwa [p.net_len] at this
theorem PlanOk.marg {p:Plan} (h:PlanOk p):∀ i v,i < p.proms.length -> endX p.net p.dels i = some v -> aj ((p.proms.getD i default).dead - v):=fun i v hi hv=>by
 obtain ⟨w,hw,hle⟩:=(h.prom i hi).2
 rw [hw] at hv
 cases hv
 have:=(h.prom i hi).1.1
 have hw0:=AA hw
 unfold aj
 omega
theorem NetOk.some0 {n:Net} (h:NetOk n):NetOk ⟨n.names,n.lines,[]⟩:=⟨h.len,by simp,h.nlen,h.word,h.nodup,h.line,fun f hf=>(by cases hf),List.nodup_nil,fun f hf=>(by cases hf)⟩
set_option maxHeartbeats 4000000 in
theorem kv (t:List Int):∃ b:Bool,b = true/\q0d 6 [ints t] (.bool b):=by
 have o1:=new_ok t
 have o2:=Rd.net_ok o1 3 4
 have hN:=net_ok (Rd.new t) 3 4 ω ω ω ω
 obtain ⟨n,s1,e1⟩:∃ n s1,(Rd.new t).net 3 4 = (n,s1):=⟨_,_,rfl⟩
 have p1:=AU _ o1 3 4 ω ω ω ω
 rw [e1] at p1 hN o2
 dsimp only at p1 hN o2
 have psane:=AD
 have hn0:NetOk ⟨n.names,n.lines,[]⟩:=hN.some0
 obtain ⟨e0,h0⟩:=Am hn0
 obtain ⟨_,rfl,p2⟩:=CL n.names n.lines (wg (p:=newP n.names n.lines []) hn0 (.inr rfl))
 rw [e0] at p2
 obtain ⟨p0,ep0⟩:∃ p0,p0 = Plan.mk n.names n.lines [] (gV ⟨n.names,n.lines,[]⟩):=⟨_,rfl⟩
 rw [<- ep0] at p2 h0
 have h0:=h0.ok
 clear ep0 e0
 have hfl:=hN.flen
 refine opE func6 ntmps6 results6 ?_
 repeat' (first|refine' ah|(refine ab psane ?_)|(refine dC (AM t) rfl ?_;conv=>whnf)|(refine be p1 ?_)|(refine ab p2 ?_))
 all_goals try first|exact ariA|exact ae ⟨true,rfl,rfl⟩|(exfalso;omega)
 refine ag (ι:={q:Nat × Plan × Rd // q.1 <= 10/\PlanOk q.2.1/\q.2.2.ok}) [3,4,5] [4] [] ⟨(0,p0,s1),π _,h0,o2⟩ (fun ⟨(k,_,_),_⟩=>10 - k) (fun ⟨(k,_,_),_⟩=>[(7,.int .i64 k)]) (fun ⟨(_,p,r),_⟩=>[(5,some (.box p.cells)),(900,some r.ob)]) ?_ ?_
 ·exact ⟨⟨rfl,rfl⟩,sq1,sq1⟩
 ·rintro ⟨⟨k,p,r⟩,hk,hp,hr⟩
  dsimp only at hk hp hr
  conv=>whnf
  have hpl:=hp.len
  by_cases hkl:(k:Int) < 10
  ·obtain ⟨b,_,pm⟩:=DT r
   rcases b with _ | _
   ·skip
    repeat' (first|(refine aa (fun hb=>?_) (fun hb=>absurd hkl hb);conv=>whnf)|refine' ah|(refine be pm ?_))
    all_goals try exact ariB
    refine ag (ι:={i:Nat // i <= p.proms.length}) [5,89] [5] [] ⟨0,π _⟩ (fun ⟨i,_⟩=>p.proms.length - i) (fun ⟨i,_⟩=>[(90,.int .i64 i)]) (fun _=>[]) ?_ ?_
    ·exact ⟨⟨rfl,rfl⟩,sq1,sq1⟩
    ·rintro ⟨i,hi⟩
     conv=>whnf
     by_cases hil:(i:Int) < p.proms.length
     ·obtain ⟨_,rfl,p7⟩:=uH p hp.fit (p.proms.getD (i:Int).toNat default).flow.name hp.marg
      obtain ⟨v,hv,hv0⟩:=wa hp (i:=i) ω
      rw [show nr p (p.proms.getD (i:Int).toNat default).flow.name = some v from hv] at p7
      have p7:q0d 37 [p.av,.str (p.proms.getD (i:Int).toNat default).flow.name] (.tup [.int .i64 v,.bool true]):=p7
      repeat' (first|(refine aa (fun hb=>?_) (fun hb=>absurd hil hb);conv=>whnf)|(exact aD [] ⟨i + 1,ω⟩)|refine' ah|(refine ab p7 ?_))
      all_goals try exact ariB
     ·skip
      repeat' (first|(refine aa (fun hb=>absurd hb hil) (fun hb=>?_);conv=>whnf)|refine' ah|(refine ab psane ?_))
      all_goals try exact ariB
      exact ae ⟨true,rfl,rfl⟩
   ·obtain ⟨kd,x,r2,hq,hr2,pq⟩:=req_at r hr n.flows ω
    obtain ⟨hkd,hx⟩:=DU hN hq
    obtain ⟨_,rfl,pd⟩:=do_ex p hp.fit ω kd x hx
    rcases hd:doX p kd x with e | q
    ·have he:=DI hd
     rw [hd] at pd
     repeat' (first|(refine ao (fun hb=>?_) (fun hb=>absurd hb he);conv=>whnf)|(refine aa (fun hb=>?_) (fun hb=>absurd hkl hb);conv=>whnf)|(exact aD [] ⟨(k + 1,p,r2),κ,hp,hr2⟩)|refine' ah|(refine be pm ?_)|(refine be pq ?_)|(refine ab pd ?_))
     all_goals try exact ariB
    ·obtain ⟨hq1,hq2⟩:=doX_ok hd
     have hql:=hq1.len
     rw [hd] at pd
     obtain ⟨_,rfl,pc⟩:=uB q ω
     rw [bI.2 hq1] at pc
     rcases hkd with rfl|rfl|rfl
     all_goals
      simp only [if_true,if_false,(φ:¬ ((2:Int) = 1)),(φ:¬ ((3:Int) = 1)),(φ:¬ ((3:Int) = 2))] at hq2
      repeat' (first|(refine aa (fun hb=>?_) (fun hb=>absurd hkl hb);conv=>whnf)|(exact aD [] ⟨(k + 1,q,r2),κ,hq1,hr2⟩)|refine' ah|(refine be pm ?_)|(refine be pq ?_)|(refine ab pd ?_)|(refine ab pc ?_))
      all_goals first|exact ariA|(exfalso;omega)|exact hb.elim (ω:(q.proms.length:Int) = _)
  ·skip
   repeat' (first|(refine aa (fun hb=>absurd hb hkl) (fun hb=>?_);conv=>whnf)|refine' ah | fail)
   all_goals try exact ariB
   refine ag (ι:={i:Nat // i <= p.proms.length}) [5,89] [5] [] ⟨0,π _⟩ (fun ⟨i,_⟩=>p.proms.length - i) (fun ⟨i,_⟩=>[(90,.int .i64 i)]) (fun _=>[]) ?_ ?_
   ·exact ⟨⟨rfl,rfl⟩,sq1,sq1⟩
   ·rintro ⟨i,hi⟩
    conv=>whnf
    by_cases hil:(i:Int) < p.proms.length
    ·obtain ⟨_,rfl,p7⟩:=uH p hp.fit (p.proms.getD (i:Int).toNat default).flow.name hp.marg
     obtain ⟨v,hv,hv0⟩:=wa hp (i:=i) ω
     rw [show nr p (p.proms.getD (i:Int).toNat default).flow.name = some v from hv] at p7
     have p7:q0d 37 [p.av,.str (p.proms.getD (i:Int).toNat default).flow.name] (.tup [.int .i64 v,.bool true]):=p7
     repeat' (first|(refine aa (fun hb=>?_) (fun hb=>absurd hil hb);conv=>whnf)|(exact aD [] ⟨i + 1,ω⟩)|refine' ah|(refine ab p7 ?_))
     all_goals try exact ariB
    ·skip
     repeat' (first|(refine aa (fun hb=>absurd hb hil) (fun hb=>?_);conv=>whnf)|refine' ah|(refine ab psane ?_))
     all_goals try exact ariB
     exact ae ⟨true,rfl,rfl⟩
end Go.Nc
