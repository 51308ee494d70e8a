/- Merged: SM2, SA1, KP, LK1, R. -/
import Derived.Test.YtnnpilpjbjbafaaGreatNcAMB
import Derived.Test.YtnnpilpjbjbafaaGreatNcOWA
import Derived.Test.YtnnpilpjbjbafaaGreatNcAMA
import Derived.Test.YtnnpilpjbjbafaaGreatNcRMA
import Derived.Test.YtnnpilpjbjbafaaGreatNcKA
import Derived.Test.YtnnpilpjbjbafaaGreatNcRWX
import Derived.Test.YtnnpilpjbjbafaaGreatNcBS
import Derived.Test.YtnnpilpjbjbafaaGreatNcKC
import Derived.Test.YtnnpilpjbjbafaaGreatNcS
import Derived.Below
namespace Go.Nc
open Go.Proofs.Tryz
open Go.Proofs
theorem Ba (a:Line) (h:Fit a.weights/\Fit a.slots):q0d 81 [a.av,a.av] (.bool true):=by
 obtain ⟨h1,h2⟩:=h
 unfold Fit at h1 h2
 obtain ⟨r,h,p⟩:=Dl a a ω ω
 obtain rfl:=h.2 rfl
 exact p
theorem Bb (a:Flow) (h:Fit a.route/\Fit a.con.vals):q0d 82 [a.av,a.av] (.bool true):=by
 obtain ⟨h1,h2⟩:=h
 unfold Fit at h1 h2
 obtain ⟨r,h,p⟩:=wN a a ω ω
 obtain rfl:=h.2 rfl
 exact p
theorem Bc (a:Prom) (h:Fit a.flow.route/\Fit a.flow.con.vals):q0d 70 [a.av,a.av] (.bool true):=by
 obtain ⟨h1,h2⟩:=h
 unfold Fit at h1 h2
 obtain ⟨r,h,p⟩:=Dm a a ω ω
 obtain rfl:=h.2 rfl
 exact p
structure NetFit (n:Net):Prop where
 names:n.names.length <= 1000000
 lines:n.lines.length <= 1000000
 line:∀ i,i < n.lines.length -> Fit (n.lines.getD i default).weights/\Fit (n.lines.getD i default).slots
 flows:n.flows.length <= 1000000
 flow:∀ i,i < n.flows.length -> Fit (n.flows.getD i default).route/\Fit (n.flows.getD i default).con.vals
set_option maxHeartbeats 2000000 in
theorem wP (n:Net) (h:NetFit n):∃ r:Bool,r = true/\q0d 27 [n.av,n.av] (.bool r):=by
 obtain ⟨h1,h2,h3,h4,h5⟩:=h
 refine opE func27 ntmps27 results27 ?_
 repeat' (first|(refine am (fun hb=>absurd rfl hb) (fun hb=>?_);conv=>whnf)|refine' ag | fail)
 all_goals try exact ariB
 refine ae (ι:={i:Nat // i <= n.names.length}) [2,3] [2,3] [] ⟨0,π _⟩ (fun ⟨i,_⟩=>n.names.length - i) (fun ⟨i,_⟩=>[(5,.int .i64 i)]) (fun _=>[]) ?_ ?_
 ·exact ⟨⟨rfl,rfl⟩,sq1,sq1⟩
 ·rintro ⟨i,hi⟩
  conv=>whnf
  by_cases hil:(i:Int) < n.names.length
  ·skip
   repeat' (first|(refine aa (fun hb=>?_) (fun hb=>absurd hil hb);conv=>whnf)|(exact aB [] ⟨i + 1,ω⟩)|refine' ag | fail)
   all_goals try exact ariA
   all_goals (exfalso;simp at hb)
  ·skip
   repeat' (first|(refine aa (fun hb=>absurd hb hil) (fun hb=>?_);conv=>whnf)|refine' ag | fail)
   all_goals try exact ariA
   refine ae (ι:={i:Nat // i <= n.lines.length}) [2,3] [2,3] [] ⟨0,π _⟩ (fun ⟨i,_⟩=>n.lines.length - i) (fun ⟨i,_⟩=>[(6,.int .i64 i)]) (fun _=>[]) ?_ ?_
   ·exact ⟨⟨rfl,rfl⟩,sq1,sq1⟩
   ·rintro ⟨j,hj⟩
    conv=>whnf
    by_cases hjl:(j:Int) < n.lines.length
    ·have p1:=Ba (n.lines.getD (j:Int).toNat default) (h3 j ω)
     repeat' (first|(refine aa (fun hb=>?_) (fun hb=>absurd hjl hb);conv=>whnf)|(exact aB [] ⟨j + 1,ω⟩)|refine' ag|(refine ab p1 ?_))
     all_goals try exact ariA
    ·skip
     repeat' (first|(refine aa (fun hb=>absurd hb hjl) (fun hb=>?_);conv=>whnf)|refine' ag | fail)
     all_goals try exact ariA
     refine ae (ι:={i:Nat // i <= n.flows.length}) [2,3] [2,3] [] ⟨0,π _⟩ (fun ⟨i,_⟩=>n.flows.length - i) (fun ⟨i,_⟩=>[(7,.int .i64 i)]) (fun _=>[]) ?_ ?_
     ·exact ⟨⟨rfl,rfl⟩,sq1,sq1⟩
     ·rintro ⟨k,hk⟩
      conv=>whnf
      by_cases hkl:(k:Int) < n.flows.length
      ·have p1:=Bb (n.flows.getD (k:Int).toNat default) (h5 k ω)
       repeat' (first|(refine aa (fun hb=>?_) (fun hb=>absurd hkl hb);conv=>whnf)|(exact aB [] ⟨k + 1,ω⟩)|refine' ag|(refine ab p1 ?_))
       all_goals try exact ariA
      ·skip
       repeat' (first|(refine aa (fun hb=>absurd hb hkl) (fun hb=>?_);conv=>whnf)|refine' ag | fail)
       all_goals try exact ariA
       exact ac ⟨true,rfl,rfl⟩
theorem Bd (d:List (List Int)) (hl:d.length <= 1000000) (hr:∀ i,i < d.length -> Fit (d.getD i [])):∃ r:Bool,r = true/\q0d 17 [ay d,ay d] (.bool r):=by
 refine opE func17 ntmps17 results17 ?_
 repeat' (first|(refine am (fun hb=>absurd rfl hb) (fun hb=>?_);conv=>whnf)|refine' ag | fail)
 all_goals try exact ariB
 refine ae (ι:={i:Nat // i <= d.length}) [0,1] [] [] ⟨0,ω⟩ (fun ⟨i,_⟩=>d.length - i) (fun ⟨i,_⟩=>[(5,.int .i64 i)]) (fun _=>[]) ?_ ?_
 ·exact ⟨⟨rfl,rfl⟩,sq1,sq1⟩
 ·rintro ⟨i,hi⟩
  conv=>whnf
  by_cases hil:(i:Int) < d.length
  ·have hf:=hr (i:Int).toNat ω
   unfold Fit at hf
   obtain ⟨r,h1,p1⟩:=iz (d.getD (i:Int).toNat []) (d.getD (i:Int).toNat []) ω
   obtain rfl:=h1.2 rfl
   repeat' (first|(refine aa (fun hb=>?_) (fun hb=>absurd hil hb);conv=>whnf)|(exact aB [] ⟨i + 1,ω⟩)|refine' ag|(refine ab p1 ?_))
   all_goals try exact ariA
  ·skip
   repeat' (first|(refine aa (fun hb=>absurd hb hil) (fun hb=>?_);conv=>whnf)|refine' ag | fail)
   all_goals try exact ariA
   exact ac ⟨true,rfl,rfl⟩
theorem Be (p:Plan) (h:PlanFit p):NetFit p.net:=by
 refine ⟨h.names,h.lines,h.line,?_,fun i hi=>?_⟩
 ·show (p.proms.map Prom.flow).length <= _
  rw [List.length_map];exact h.proms
 ·rw [jX p]
  exact h.prom i (by have hi:i < (p.proms.map Prom.flow).length:=hi
                     rwa [List.length_map] at hi)
set_option maxHeartbeats 2000000 in
theorem tr (p:Plan) (h:PlanFit p):∃ r:Bool,r = true/\q0d 22 [p.av,p.av] (.bool r):=by
 obtain ⟨_,_,p1⟩:=kP p h.proms
 obtain ⟨_,rfl,p2⟩:=wP p.net (Be p h)
 obtain ⟨_,rfl,p3⟩:=Bd p.dels h.dels h.del
 have hl:=h.proms
 refine opE func22 ntmps22 results22 ?_
 repeat' (first|(refine am (fun hb=>absurd rfl hb) (fun hb=>?_);conv=>whnf)|refine' ag|(refine ab p1 ?_)|(refine ab p2 ?_)|(refine ab p3 ?_))
 all_goals try exact ariB
 refine ae (ι:={i:Nat // i <= p.proms.length}) [2,3] [2,3] [] ⟨0,π _⟩ (fun ⟨i,_⟩=>p.proms.length - i) (fun ⟨i,_⟩=>[(5,.int .i64 i)]) (fun _=>[]) ?_ ?_
 ·exact ⟨⟨rfl,rfl⟩,sq1,sq1⟩
 ·rintro ⟨i,hi⟩
  conv=>whnf
  by_cases hil:(i:Int) < p.proms.length
  ·have p4:=Bc (p.proms.getD (i:Int).toNat default) (h.prom i ω)
   repeat' (first|(refine aa (fun hb=>?_) (fun hb=>absurd hil hb);conv=>whnf)|(exact aB [] ⟨i + 1,ω⟩)|refine' ag|(refine ab p4 ?_))
   all_goals try exact ariA
  ·skip
   repeat' (first|(refine aa (fun hb=>absurd hb hil) (fun hb=>?_);conv=>whnf)|refine' ag | fail)
   all_goals try exact ariA
   exact ac ⟨true,rfl,rfl⟩
theorem lt1P {p:Nat -> Prop} (h0:p 0):∀ i,i < 1 -> p i:=fun i hi=>by
 obtain rfl:i = 0:=ω
 exact h0
def lnB (cap:Int):Line:=⟨1,cap,1,[],[]⟩
theorem Bf:∃ _:Unit,True/\q0d 54 [] (slc 5 Line.cells default [lnB 10]):=by
 refine opE func54 ntmps54 results54 ?_
 repeat' (first|refine' ag | fail)
 refine a9 [0] [] [] [] [(2,some (.arr 1 5 (eget Line.cells default [lnB 10]) 93))] ⟨⟨rfl,rfl⟩,?_,?_⟩ (aE 2 rfl rfl (fun _ _=>rfl) ?_ ?_ (bm ?_))
 ·skip
  all_goals ((refine' subP)<;>first|exact AQ (lt1P (.cons Ψ (.cons Ψ (.cons Ψ (.cons AvLe.nils (.cons AvLe.nils .nil))))))|exact sq1)
 ·skip
  all_goals exact sq1
 ·all_goals try refine' frzZ
 ·all_goals try refine' frzZ
 ·exact ⟨(),Ψ,trivial⟩
theorem tt (v:Int):∃ _:Unit,True/\q0c 55 [.int .i64 v] [] (w39 v).av []:=by
 have p0:=o9 100 1 0 φ φ
 refine opE func55 ntmps55 results55 ?_
 repeat' (first|refine' ag|(refine ab p0 ?_))
 refine a9 [2] [] [] [] [(2,some (.box [.str nf,.osl 3 1,.int .i64 0,.int .i64 1,.int .i64 100,ints [0,100],.int .i64 1,.int .i64 0,.int .i64 v,.int .i64 0])),(3,some (.arr 1 1 (eget encI 0 [0]) 3))] ⟨⟨rfl,rfl⟩,?_,?_⟩ (aE 3 rfl rfl (fun _ _=>rfl) ?_ ?_ (bm ?_))
 ·skip
  all_goals ((refine' subP)<;>first|exact q0b rfl (lt1P rfl)|exact sq1)
 ·skip
  all_goals ((refine' subP)<;>first|exact q0b rfl (lt1P rfl)|exact sq1)
 ·all_goals try refine' frzZ
 ·all_goals try refine' frzZ
 ·exact ⟨(),Ψ,trivial⟩
theorem Bg (v:Int):cV (w39 v):=⟨by show Fit [0];unfold Fit;decide,by show Fit [0,100];unfold Fit;decide⟩
theorem Bh:PlanFit (newP [⟨#[97]⟩] [lnB 10] []):=⟨φ,φ,lt1P ⟨by unfold Fit;decide,by unfold Fit;decide⟩,φ,ν,φ,ν⟩
set_option maxHeartbeats 1000000 in
theorem Bi:q0d 11 [] (.bool true):=by
 obtain ⟨_,_,p0⟩:=Bf
 obtain ⟨_,_,w9⟩:=tt 9
 obtain ⟨_,_,w8⟩:=tt 8
 obtain ⟨e0,h0⟩:=tf (cap:=10) φ
 obtain ⟨_,rfl,p1⟩:=D6 [⟨#[97]⟩] [lnB 10] Bh
 rw [show newX [⟨#[97]⟩] [lnB 10] = _ from e0] at p1
 obtain ⟨_,rfl,p2⟩:=lL _ h0.ok.fit φ (w39 9) (Bg 9)
 rw [ve] at p2
 obtain ⟨_,rfl,p3⟩:=lL _ h0.ok.fit φ (w39 8) (Bg 8)
 rw [E0] at p3
 obtain ⟨_,rfl,p4⟩:=AX _ n8.fit nf
 rw [E8] at p4
 obtain ⟨_,rfl,p5⟩:=nE _ n8.fit φ nf
 rw [E7] at p5
 obtain ⟨_,rfl,p6⟩:=tr _ h0.ok.fit
 obtain ⟨_,rfl,p7⟩:=iy _ n8.fit
 rw [bk.2 n8] at p7
 refine opG func11 ntmps11 results11 fun w0 Im0 ρ0=>?_
 repeat' (first|refine' aj|(refine ab p0 ?_)|(refine ab w9 ?_)|(refine ab w8 ?_)|(refine bc [] [_] p1 rfl ?_ ?_ ?_ ?_;rotate_left;rotate_left;rotate_left;conv=>whnf)|(refine ab p2 ?_)|(refine ab p3 ?_)|(refine ab p4 ?_)|(refine ab p5 ?_)|(refine ab p6 ?_)|(refine ab p7 ?_))
 ·exact Ψ
 ·exact ξ _
 ·exact lt1P rfl
 ·exact lt1P rfl
theorem Bj (s:Rd) (hs:s.ok) (f:Flow):∃ (d p:Int) (s':Rd),(0 <= d/\d <= 2000)/\(0 <= p/\p <= 3)/\s'.ok/\q0c 15 [.lptr 900 0,f.av] [(900,s.ob)] (Prom.av ⟨f,d,p⟩) [(900,s'.ob)]:=by
 obtain ⟨d,s1,hd,o1,p1⟩:=qX s hs [0,2,4,8,16,40,400,2000] η η
 obtain ⟨p,s2,_,hp,o2,p2⟩:=n_at s1 o1 4 ω ω
 simp only [List.mem_cons,List.not_mem_nil,or_false] at hd
 refine ⟨d,p,s2,ω,ω,o2,?_⟩
 refine opG func15 ntmps15 results15 (fun w0 Im0 ρ0=>?_) (hcl:=⟨rfl,rfl,rfl,aF rfl,aF rfl,rfl⟩)
 repeat' (first|refine' cW|(refine bX [.lptr 900 0] [] p1 rfl rfl rfl (ξ _) ?_ ?_ ?_;rotate_left;rotate_left;conv=>whnf)|(refine aG p2 ?_))
 all_goals first|exact Ψ|rfl|exact aQ (by repeat' (first|exact True.intro|rfl|refine And.intro ?_ ?_))
def ReqQ (l:List Flow) (k:Int) (x:Prom):Prop:=(l = []/\k = 2/\x = default) \/ ((k = 1 \/ k = 2 \/ k = 3)/\x.flow ∈ l/\(0 <= x.dead/\x.dead <= 2000)/\0 <= x.prio/\x.prio <= 3)
theorem req_at (s:Rd) (hs:s.ok) (l:List Flow) (hl:l.length <= 1000):∃ (k:Int) (x:Prom) (s':Rd),ReqQ l k x/\s'.ok/\q0c 30 [.lptr 900 0,slc 8 Flow.cells default l] [(900,s.ob)] (.agg (.int .i64 k :: x.cells)) [(900,s'.ob)]:=by
 by_cases h0:(l.length:Int) = 0
 ·refine ⟨2,default,s,.inl ⟨List.eq_nil_of_length_eq_zero ω,rfl,rfl⟩,hs,?_⟩
  refine opG func30 ntmps30 results30 (fun w0 Im0 ρ0=>?_) (hcl:=⟨rfl,rfl,rfl,aF rfl,aF rfl,rfl⟩)
  repeat' (first|(refine aa (fun hb=>?_) (fun hb=>absurd h0 hb);conv=>whnf)|refine' cW | fail)
  all_goals first|rfl|exact AvLe.agg (.cons Ψ (.cons Ψ (.cons AvLe.nils (.cons Ψ (.cons Ψ (.cons Ψ (.cons AvLe.nils (.cons Ψ (.cons Ψ (.cons Ψ (.cons Ψ .nil)))))))))))
 ·obtain ⟨k,s1,hk,o1,p1⟩:=qX s hs [1,1,1,2,3] η η
  obtain ⟨i,s2,_,hi,o2,p2⟩:=n_at s1 o1 l.length ω ω
  obtain ⟨d,p,s3,hd,hp,o3,p3⟩:=Bj s2 o2 (l.getD i.toNat default)
  simp only [List.mem_cons,List.not_mem_nil,or_false] at hk
  refine ⟨k,⟨l.getD i.toNat default,d,p⟩,s3,.inr ⟨ω,(by simp [(ω:i.toNat < l.length)]),hd,hp⟩,o3,?_⟩
  refine opG func30 ntmps30 results30 (fun w0 Im0 ρ0=>?_) (hcl:=⟨rfl,rfl,rfl,aF rfl,aF rfl,rfl⟩)
  repeat' (first|(refine aa (fun hb=>absurd hb h0) (fun hb=>?_);conv=>whnf)|refine' cW|(refine bX [.lptr 900 0] [] p1 rfl rfl rfl (ξ _) ?_ ?_ ?_;rotate_left;rotate_left;conv=>whnf)|(refine aG p2 ?_)|(refine aG p3 ?_))
  all_goals first|exact Ψ|rfl|omega|exact aQ (by repeat' (first|exact True.intro|rfl|refine And.intro ?_ ?_))
theorem EC {n:Net} (hN:NetOk n) {k:Int} {x:Prom} (h:ReqQ n.flows k x):(k = 1 \/ k = 2 \/ k = 3)/\cV x:=by
 rcases h with ⟨_,rfl,rfl⟩ | ⟨h1,h2,_⟩
 ·exact ⟨.inr (.inl rfl),by show Fit [];unfold Fit;decide,by show Fit [];unfold Fit;decide⟩
 ·exact ⟨h1,wI (hN.flow _ h2)⟩
theorem PlanOk.len {p:Plan} (h:PlanOk p):p.proms.length <= 10:=by
 have:=h.net.flen
 rwa [p.net_len] at this
theorem NetOk.some0 {n:Net} (h:NetOk n):NetOk ⟨n.names,n.lines,[]⟩:=⟨h.len,by simp,h.nlen,h.word,h.nodup,h.line,fun f hf=>(by cases hf),List.nodup_nil,fun f hf=>(by cases hf)⟩
open Go.Proofs Go.RowKit
theorem CallSpec.law {P:Program} {f:FuncId} {vs:List AV} {v:Bool} (h:CallSpec P f vs [] (.bool v) []) {w:World} {xs:Array Value} (Im:Nat -> Prop) (him:∀ b,Im b -> b < w.heap.size) (hx:Cons (fun _=>(none,0)) Im w.heap vs xs) :
  Calls P f xs w fun e w'=>e = .returned (.bool v)/\Below w.heap.size w w':=by
 refine (h.calls w (fun _=>(none,0)) Im xs ?_ hx).mono fun e w' he=>?_
 ·refine ⟨?_,?_,?_,?_,him,fun _ h=>h,fun _ h=>.inl h,rfl,rfl,rfl,ξ _,fun _ _ _=>rfl,fun id h=>(by cases h),fun l r h=>⟨r.state,r.pending,h⟩,fun l h=>(by cases h)⟩
  ·intro id ob h;cases h
  ·intro id ob b h;cases h
  ·intro id id' ob ob' b h;cases h
  ·intro id ob h;cases h
 ·obtain ⟨y,ρ',Im',rfl,hc,_,hm⟩:=he
  refine ⟨?_,hm.os,hm.tape,hm.output,hm.size,fun k hk=>hm.frame k hk (by intro id hid;cases hid)⟩
  cases hc with
  | imm _ _ h=>cases h;rfl
end Go.Nc