/- Merged: SM2, SA1, KP, LK1, R. -/
import Derived.Test.YtnnpilpjbjbafaaGreatNcAMB
import Derived.Test.YtnnpilpjbjbafaaGreatNcOWA
import Derived.Test.YtnnpilpjbjbafaaGreatNcAMA
import Derived.Test.YtnnpilpjbjbafaaGreatNcRMA
import Derived.Test.YtnnpilpjbjbafaaGreatNcKA
import Derived.Test.YtnnpilpjbjbafaaGreatNcRWX
import Derived.Test.YtnnpilpjbjbafaaGreatNcBS
import Derived.Test.YtnnpilpjbjbafaaGreatNcKC
import Derived.Test.YtnnpilpjbjbafaaGreatNcS
import Derived.Below
namespace Go.Nc
open Go.Proofs.Tryz
open Go.Proofs
theorem Bt (a:Line) (h:Fit a.weights/\Fit a.slots):q0d 81 [a.av,a.av] (.bool true):=by
 obtain ⟨h1,h2⟩:=h
 unfold Fit at h1 h2
 obtain ⟨r,h,p⟩:=Dj a a ω ω
 obtain rfl:=h.2 rfl
 exact p
theorem Bu (a:Flow) (h:Fit a.route/\Fit a.con.vals):q0d 82 [a.av,a.av] (.bool true):=by
 obtain ⟨h1,h2⟩:=h
 unfold Fit at h1 h2
 obtain ⟨r,h,p⟩:=wY a a ω ω
 obtain rfl:=h.2 rfl
 exact p
theorem Bv (a:Prom) (h:Fit a.flow.route/\Fit a.flow.con.vals):q0d 70 [a.av,a.av] (.bool true):=by
 obtain ⟨h1,h2⟩:=h
 unfold Fit at h1 h2
 obtain ⟨r,h,p⟩:=Dk a a ω ω
 obtain rfl:=h.2 rfl
 exact p
structure NetFit (n:Net):Prop where
 names:n.names.length <= 1000000
 lines:n.lines.length <= 1000000
 line:∀ i,i < n.lines.length -> Fit (n.lines.getD i default).weights/\Fit (n.lines.getD i default).slots
 flows:n.flows.length <= 1000000
 flow:∀ i,i < n.flows.length -> Fit (n.flows.getD i default).route/\Fit (n.flows.getD i default).con.vals
set_option maxHeartbeats 2000000 in
theorem Dl (n:Net) (h:NetFit n):∃ r:Bool,r = true/\q0d 27 [n.av,n.av] (.bool r):=by
 obtain ⟨h1,h2,h3,h4,h5⟩:=h
 refine opE func27 ntmps27 results27 ?_
 repeat' (first|(refine ao (fun hb=>absurd rfl hb) (fun hb=>?_);conv=>whnf)|refine' ah | fail)
 all_goals try exact ariB
 refine ag (ι:={i:Nat // i <= n.names.length}) [2,3] [2,3] [] ⟨0,π _⟩ (fun ⟨i,_⟩=>n.names.length - i) (fun ⟨i,_⟩=>[(5,.int .i64 i)]) (fun _=>[]) ?_ ?_
 ·exact ⟨⟨rfl,rfl⟩,sq1,sq1⟩
 ·rintro ⟨i,hi⟩
  conv=>whnf
  by_cases hil:(i:Int) < n.names.length
  ·skip
   repeat' (first|(refine aa (fun hb=>?_) (fun hb=>absurd hil hb);conv=>whnf)|(exact aD [] ⟨i + 1,ω⟩)|refine' ah | fail)
   all_goals try exact ariA
   all_goals (exfalso;simp at hb)
  ·skip
   repeat' (first|(refine aa (fun hb=>absurd hb hil) (fun hb=>?_);conv=>whnf)|refine' ah | fail)
   all_goals try exact ariA
   refine ag (ι:={i:Nat // i <= n.lines.length}) [2,3] [2,3] [] ⟨0,π _⟩ (fun ⟨i,_⟩=>n.lines.length - i) (fun ⟨i,_⟩=>[(6,.int .i64 i)]) (fun _=>[]) ?_ ?_
   ·exact ⟨⟨rfl,rfl⟩,sq1,sq1⟩
   ·rintro ⟨j,hj⟩
    conv=>whnf
    by_cases hjl:(j:Int) < n.lines.length
    ·have p1:=Bt (n.lines.getD (j:Int).toNat default) (h3 j ω)
     repeat' (first|(refine aa (fun hb=>?_) (fun hb=>absurd hjl hb);conv=>whnf)|(exact aD [] ⟨j + 1,ω⟩)|refine' ah|(refine ab p1 ?_))
     all_goals try exact ariA
    ·skip
     repeat' (first|(refine aa (fun hb=>absurd hb hjl) (fun hb=>?_);conv=>whnf)|refine' ah | fail)
     all_goals try exact ariA
     refine ag (ι:={i:Nat // i <= n.flows.length}) [2,3] [2,3] [] ⟨0,π _⟩ (fun ⟨i,_⟩=>n.flows.length - i) (fun ⟨i,_⟩=>[(7,.int .i64 i)]) (fun _=>[]) ?_ ?_
     ·exact ⟨⟨rfl,rfl⟩,sq1,sq1⟩
     ·rintro ⟨k,hk⟩
      conv=>whnf
      by_cases hkl:(k:Int) < n.flows.length
      ·have p1:=Bu (n.flows.getD (k:Int).toNat default) (h5 k ω)
       repeat' (first|(refine aa (fun hb=>?_) (fun hb=>absurd hkl hb);conv=>whnf)|(exact aD [] ⟨k + 1,ω⟩)|refine' ah|(refine ab p1 ?_))
       all_goals try exact ariA
      ·skip
       repeat' (first|(refine aa (fun hb=>absurd hb hkl) (fun hb=>?_);conv=>whnf)|refine' ah | fail)
       all_goals try exact ariA
       exact ae ⟨true,rfl,rfl⟩
theorem tn (d:List (List Int)) (hl:d.length <= 1000000) (hr:∀ i,i < d.length -> Fit (d.getD i [])):∃ r:Bool,r = true/\q0d 17 [az d,az d] (.bool r):=by
 refine opE func17 ntmps17 results17 ?_
 repeat' (first|(refine ao (fun hb=>absurd rfl hb) (fun hb=>?_);conv=>whnf)|refine' ah | fail)
 all_goals try exact ariB
 refine ag (ι:={i:Nat // i <= d.length}) [0,1] [] [] ⟨0,ω⟩ (fun ⟨i,_⟩=>d.length - i) (fun ⟨i,_⟩=>[(5,.int .i64 i)]) (fun _=>[]) ?_ ?_
 ·exact ⟨⟨rfl,rfl⟩,sq1,sq1⟩
 ·rintro ⟨i,hi⟩
  conv=>whnf
  by_cases hil:(i:Int) < d.length
  ·have hf:=hr (i:Int).toNat ω
   unfold Fit at hf
   obtain ⟨r,h1,p1⟩:=io (d.getD (i:Int).toNat []) (d.getD (i:Int).toNat []) ω
   obtain rfl:=h1.2 rfl
   repeat' (first|(refine aa (fun hb=>?_) (fun hb=>absurd hil hb);conv=>whnf)|(exact aD [] ⟨i + 1,ω⟩)|refine' ah|(refine ab p1 ?_))
   all_goals try exact ariA
  ·skip
   repeat' (first|(refine aa (fun hb=>absurd hb hil) (fun hb=>?_);conv=>whnf)|refine' ah | fail)
   all_goals try exact ariA
   exact ae ⟨true,rfl,rfl⟩
theorem EJ (p:Plan) (h:PlanFit p):NetFit p.net:=by
 refine ⟨h.names,h.lines,h.line,?_,fun i hi=>?_⟩
 ·show (p.proms.map Prom.flow).length <= _
  rw [List.length_map];exact h.proms
 ·rw [nr p]
  exact h.prom i (by have hi:i < (p.proms.map Prom.flow).length:=hi
                     rwa [List.length_map] at hi)
set_option maxHeartbeats 2000000 in
theorem n3 (p:Plan) (h:PlanFit p):∃ r:Bool,r = true/\q0d 22 [p.av,p.av] (.bool r):=by
 obtain ⟨_,_,p1⟩:=vp p h.proms
 obtain ⟨_,rfl,p2⟩:=Dl p.net (EJ p h)
 obtain ⟨_,rfl,p3⟩:=tn p.dels h.dels h.del
 have hl:=h.proms
 refine opE func22 ntmps22 results22 ?_
 repeat' (first|(refine ao (fun hb=>absurd rfl hb) (fun hb=>?_);conv=>whnf)|refine' ah|(refine ab p1 ?_)|(refine ab p2 ?_)|(refine ab p3 ?_))
 all_goals try exact ariB
 refine ag (ι:={i:Nat // i <= p.proms.length}) [2,3] [2,3] [] ⟨0,π _⟩ (fun ⟨i,_⟩=>p.proms.length - i) (fun ⟨i,_⟩=>[(5,.int .i64 i)]) (fun _=>[]) ?_ ?_
 ·exact ⟨⟨rfl,rfl⟩,sq1,sq1⟩
 ·rintro ⟨i,hi⟩
  conv=>whnf
  by_cases hil:(i:Int) < p.proms.length
  ·have p4:=Bv (p.proms.getD (i:Int).toNat default) (h.prom i ω)
   repeat' (first|(refine aa (fun hb=>?_) (fun hb=>absurd hil hb);conv=>whnf)|(exact aD [] ⟨i + 1,ω⟩)|refine' ah|(refine ab p4 ?_))
   all_goals try exact ariA
  ·skip
   repeat' (first|(refine aa (fun hb=>absurd hb hil) (fun hb=>?_);conv=>whnf)|refine' ah | fail)
   all_goals try exact ariA
   exact ae ⟨true,rfl,rfl⟩
theorem lt1P {p:Nat -> Prop} (h0:p 0):∀ i,i < 1 -> p i:=fun i hi=>by
 obtain rfl:i = 0:=ω
 exact h0
def lnB (cap:Int):Line:=⟨1,cap,1,[],[]⟩
theorem Bw:∃ _:Unit,True/\q0d 54 [] (slc 5 Line.cells default [lnB 10]):=by
 refine opE func54 ntmps54 results54 ?_
 repeat' (first|refine' ah | fail)
 refine aW [0] [] [] [] [(2,some (.arr 1 5 (eget Line.cells default [lnB 10]) 93))] ⟨⟨rfl,rfl⟩,?_,?_⟩ (bD 2 rfl rfl (fun _ _=>rfl) ?_ ?_ (bk ?_))
 ·skip
  all_goals ((refine' subP)<;>first|exact Bj (lt1P (.cons Ψ (.cons Ψ (.cons Ψ (.cons AvLe.nils (.cons AvLe.nils .nil))))))|exact sq1)
 ·skip
  all_goals exact sq1
 ·all_goals try refine' frzZ
 ·all_goals try refine' frzZ
 ·exact ⟨(),Ψ,trivial⟩
theorem tp (v:Int):∃ _:Unit,True/\q0c 55 [.int .i64 v] [] (w39 v).av []:=by
 have p0:=oh 100 1 0 φ φ
 refine opE func55 ntmps55 results55 ?_
 repeat' (first|refine' ah|(refine ab p0 ?_))
 refine aW [2] [] [] [] [(2,some (.box [.str nf,.osl 3 1,.int .i64 0,.int .i64 1,.int .i64 100,ints [0,100],.int .i64 1,.int .i64 0,.int .i64 v,.int .i64 0])),(3,some (.arr 1 1 (eget encI 0 [0]) 3))] ⟨⟨rfl,rfl⟩,?_,?_⟩ (bD 3 rfl rfl (fun _ _=>rfl) ?_ ?_ (bk ?_))
 ·skip
  all_goals ((refine' subP)<;>first|exact q0b rfl (lt1P rfl)|exact sq1)
 ·skip
  all_goals ((refine' subP)<;>first|exact q0b rfl (lt1P rfl)|exact sq1)
 ·all_goals try refine' frzZ
 ·all_goals try refine' frzZ
 ·exact ⟨(),Ψ,trivial⟩
theorem EK {n:Net} {d:List (List Int)} {i:Int} {v:Int} (h:endX n d i = some v):0 <= v:=by
 unfold endX at h
 split at h
 ·rename_i hc
  obtain ⟨hf,h0,h1⟩:=hc
  obtain ⟨⟨hn,_⟩,hs⟩:=hf
  obtain ⟨i,rfl⟩:=γ h0
  have hfo:FlowOk n.lines (n.flows.getD (i:Int).toNat default):=hn.flow _ (bG default ω)
  have hne:=hfo.ne
  have:=mh (fun z hz=>?_) h
  ·omega
  ·have g1:=hfo.lines z hz
   have g2:=hfo.cls2 z hz
   have g3:=hs.row z.toNat ω
   have g4:=hfo.cls
   exact (hs.val z.toNat (n.flows.getD (i:Int).toNat default).class_.toNat ω ω).2
 ·cases h
theorem Bx (v:Int):fG (w39 v):=⟨by show Fit [0];unfold Fit;decide,by show Fit [0,100];unfold Fit;decide⟩
theorem By:PlanFit (newP [⟨#[97]⟩] [lnB 10] []):=⟨φ,φ,lt1P ⟨by unfold Fit;decide,by unfold Fit;decide⟩,φ,ν,φ,ν⟩
set_option maxHeartbeats 1000000 in
theorem tq:q0d 11 [] (.bool true):=by
 obtain ⟨_,_,p0⟩:=Bw
 obtain ⟨_,_,w9⟩:=tp 9
 obtain ⟨_,_,w8⟩:=tp 8
 obtain ⟨e0,h0⟩:=td (cap:=10) φ
 obtain ⟨_,rfl,p1⟩:=D5 [⟨#[97]⟩] [lnB 10] By
 rw [show newX [⟨#[97]⟩] [lnB 10] = _ from e0] at p1
 obtain ⟨_,rfl,p2⟩:=gC _ h0.ok.fit φ (w39 9) (Bx 9)
 rw [vr] at p2
 obtain ⟨_,rfl,p3⟩:=gC _ h0.ok.fit φ (w39 8) (Bx 8)
 rw [EB] at p3
 obtain ⟨_,rfl,p4⟩:=EI _ jh.fit nf (fun i v hi hv=>by
  obtain ⟨w,hw,hle⟩:=(jh.prom i hi).2
  rw [hw] at hv
  cases hv
  have:=(jh.prom i hi).1.1
  have hw0:=EK hw
  unfold aj
  omega)
 rw [ED] at p4
 obtain ⟨_,rfl,p5⟩:=tm _ jh.fit φ nf
 rw [EC] at p5
 obtain ⟨_,rfl,p6⟩:=n3 _ h0.ok.fit
 obtain ⟨_,rfl,p7⟩:=jP _ jh.fit
 rw [bu.2 jh] at p7
 refine opG func11 ntmps11 results11 fun w0 Im0 ρ0=>?_
 repeat' (first|refine' ak|(refine ab p0 ?_)|(refine ab w9 ?_)|(refine ab w8 ?_)|(refine bh [] [_] p1 rfl ?_ ?_ ?_ ?_;rotate_left;rotate_left;rotate_left;conv=>whnf)|(refine ab p2 ?_)|(refine ab p3 ?_)|(refine ab p4 ?_)|(refine ab p5 ?_)|(refine ab p6 ?_)|(refine ab p7 ?_))
 ·exact Ψ
 ·exact ξ _
 ·exact lt1P rfl
 ·exact lt1P rfl
theorem vy (s:Rd) (hs:s.ok) (f:Flow):∃ (d p:Int) (s':Rd),(0 <= d/\d <= 2000)/\(0 <= p/\p <= 3)/\s'.ok/\q0c 15 [.lptr 900 0,f.av] [(900,s.ob)] (Prom.av ⟨f,d,p⟩) [(900,s'.ob)]:=by
 obtain ⟨d,s1,hd,o1,p1⟩:=Eu s hs [0,2,4,8,16,40,400,2000] η η
 obtain ⟨p,s2,_,hp,o2,p2⟩:=n_at s1 o1 4 ω ω
 simp only [List.mem_cons,List.not_mem_nil,or_false] at hd
 refine ⟨d,p,s2,ω,ω,o2,?_⟩
 refine opG func15 ntmps15 results15 (fun w0 Im0 ρ0=>?_) (hcl:=⟨rfl,rfl,rfl,aV rfl,aV rfl,rfl⟩)
 repeat' (first|refine' du|(refine dO [.lptr 900 0] [] p1 rfl rfl rfl (ξ _) ?_ ?_ ?_;rotate_left;rotate_left;conv=>whnf)|(refine aU p2 ?_))
 all_goals first|exact Ψ|rfl|exact bq (by repeat' (first|exact True.intro|rfl|refine And.intro ?_ ?_))
def ReqQ (l:List Flow) (k:Int) (x:Prom):Prop:=(l = []/\k = 2/\x = default) \/ ((k = 1 \/ k = 2 \/ k = 3)/\x.flow ∈ l/\(0 <= x.dead/\x.dead <= 2000)/\0 <= x.prio/\x.prio <= 3)
theorem PlanOk.len {p:Plan} (h:PlanOk p):p.proms.length <= 10:=by
 have:=h.net.flen
 rwa [p.net_len] at this
theorem NetOk.some0 {n:Net} (h:NetOk n):NetOk ⟨n.names,n.lines,[]⟩:=⟨h.len,by simp,h.nlen,h.word,h.nodup,h.line,fun f hf=>(by cases hf),List.nodup_nil,fun f hf=>(by cases hf)⟩
open Go.Proofs Go.RowKit
theorem Dm {k:IntKind} {w:World} {x:Addr} {len cap:Nat} {zs:List Int} (hl:len <= cap) (hc:len <= slMax) (hz:zs.length = cap) (hcell:∀ i,i < zs.length -> w.cell? (x.add i) = some (.int k (zs.getD i 0))) :
  ConI (fun b=>b = x.block/\b < w.heap.size) w.heap (.isl len 1 fun i=>[.int k ((zs.take len).getD i 0)]) (.slice (some x) len cap):=by
 have hlen:(zs.take len).length = len:=by simp;omega
 rcases Nat.eq_zero_or_pos cap with h0 | h0
 ·have e1:len = 0:=ω
  subst e1;subst h0
  exact .isl0 ..
 ·obtain ⟨b,off,spot⟩:=x
  have h1:=hcell 0 ω
  obtain ⟨arr,T,fr,hb⟩:∃ arr T fr,w.heap[b]? = some (.cells arr T fr):=by
   unfold World.cell? Addr.add at h1
   rw [if_pos rfl] at h1
   dsimp only at h1
   split at h1
   ·exact ⟨_,_,_,‹_›⟩
   ·cases h1
  have hs:spot = none:=by
   unfold World.cell? Addr.add at h1
   rw [if_pos rfl] at h1
   dsimp only at h1
   rw [hb] at h1
   dsimp only at h1
   cases spot with
   | none=>rfl
   | some s=>simp at h1
  subst hs
  have ha:∀ i,i < zs.length -> arr[off + i]? = some (.int k (zs.getD i 0)):=fun i hi=>by
   have h:=hcell i hi
   unfold World.cell? Addr.add at h
   by_cases e:i = 0
   ·rw [if_pos e] at h
    dsimp only at h
    rw [hb] at h
    rw [e]
    simpa [e] using h
   ·rw [if_neg e] at h
    dsimp only at h
    rw [hb] at h
    simpa using h
  have hlt:b < w.heap.size:=by
   rcases ζ b w.heap.size with h | h
   ·exact h
   ·rw [Array.getElem?_eq_none h] at hb;cases hb
  have hfit:off + (cap - 1) < arr.size:=by
   have h:=ha (cap - 1) ω
   rcases ζ (off + (cap - 1)) arr.size with h' | h'
   ·exact h'
   ·rw [Array.getElem?_eq_none h'] at h;cases h
  refine .isl _ _ _ b off cap arr T fr ⟨rfl,hlt⟩ hb (fun _ _=>rfl) hl hc ω fun i j c y hi hj hy=>?_
  match j with
  | 0 =>
   have e1:=Option.some.inj hj
   rw [<- e1]
   rw [(ω:off + i * 1 + 0 = off + i),ha i ω] at hy
   rw [<- Option.some.inj hy]
   have e2:(zs.take len).getD i 0 = zs.getD i 0:=by
    simp [hi]
   rw [e2]
   exact .int ..
  | j + 1=>cases hj
theorem row_con {w:World} {x:Addr} {len cap:Nat} {zs:List Int} (hl:len <= cap) (hc:len <= slMax) (hz:zs.length = cap) (hcell:∀ i,i < zs.length -> w.cell? (x.add i) = some (.int .i64 (zs.getD i 0))) :
  ConI (fun b=>b = x.block/\b < w.heap.size) w.heap (ints (zs.take len)) (.slice (some x) len cap):=by
 have hlen:(zs.take len).length = len:=by simp;omega
 unfold ints
 rw [hlen]
 exact Dm hl hc hz hcell
theorem CallSpec.law {P:Program} {f:FuncId} {vs:List AV} {v:Bool} (h:CallSpec P f vs [] (.bool v) []) {w:World} {xs:Array Value} (Im:Nat -> Prop) (him:∀ b,Im b -> b < w.heap.size) (hx:Cons (fun _=>(none,0)) Im w.heap vs xs) :
  Calls P f xs w fun e w'=>e = .returned (.bool v)/\Below w.heap.size w w':=by
 refine (h.calls w (fun _=>(none,0)) Im xs ?_ hx).mono fun e w' he=>?_
 ·refine ⟨?_,?_,?_,?_,him,fun _ h=>h,fun _ h=>.inl h,rfl,rfl,rfl,ξ _,fun _ _ _=>rfl,fun id h=>(by cases h),fun l r h=>⟨r.state,r.pending,h⟩,fun l h=>(by cases h)⟩
  ·intro id ob h;cases h
  ·intro id ob b h;cases h
  ·intro id id' ob ob' b h;cases h
  ·intro id ob h;cases h
 ·obtain ⟨y,ρ',Im',rfl,hc,_,hm⟩:=he
  refine ⟨?_,hm.os,hm.tape,hm.output,hm.size,fun k hk=>hm.frame k hk (by intro id hid;cases hid)⟩
  cases hc with
  | imm _ _ h=>cases h;rfl
end Go.Nc
