/- Parts. -/
import Derived.Test.YtnnpilpjbjbafaaGreatNdRMA
import Derived.Below
namespace Go.Nc
open Go.Proofs.Tryz
open Go.Proofs
set_option maxHeartbeats 8000000
theorem B6 (a:Line) (h:Fit a.weights/\Fit a.slots):q0d 81 [a.av,a.av] (.bool true):=by
 obtain ⟨h1,h2⟩:=h
 unfold Fit at h1 h2
 obtain ⟨r,h,p⟩:=DL a a ω ω
 obtain rfl:=h.2 rfl
 exact p
theorem B7 (a:Flow) (h:Fit a.route/\Fit a.con.vals):q0d 82 [a.av,a.av] (.bool true):=by
 obtain ⟨h1,h2⟩:=h
 unfold Fit at h1 h2
 obtain ⟨r,h,p⟩:=xr a a ω ω
 obtain rfl:=h.2 rfl
 exact p
theorem B8 (a:Prom) (h:Fit a.flow.route/\Fit a.flow.con.vals):q0d 70 [a.av,a.av] (.bool true):=by
 obtain ⟨h1,h2⟩:=h
 unfold Fit at h1 h2
 obtain ⟨r,h,p⟩:=xt a a ω ω
 obtain rfl:=h.2 rfl
 exact p
structure NetFit (n:Net):Prop where
 names:n.names.length <= 1000000
 lines:n.lines.length <= 1000000
 line:∀ i,i < n.lines.length -> Fit (n.lines.getD i default).weights/\Fit (n.lines.getD i default).slots
 flows:n.flows.length <= 1000000
 flow:∀ i,i < n.flows.length -> Fit (n.flows.getD i default).route/\Fit (n.flows.getD i default).con.vals
theorem DM (n:Net) (h:NetFit n):∃ r:Bool,r = true/\q0d 27 [n.av,n.av] (.bool r):=by
 obtain ⟨h1,h2,h3,h4,h5⟩:=h
 refine opE func27 ntmps27 results27 ?_
 repeat' (first|(refine ak (fun hb=>absurd rfl hb) (fun hb=>?_);conv=>whnf)|refine' ag | fail)
 all_goals try exact ariB
 refine ae (ι:={i:Nat // i <= n.names.length}) [2,3] [2,3] [] ⟨0,π _⟩ (fun ⟨i,_⟩=>n.names.length - i) (fun ⟨i,_⟩=>[(5,J i)]) (fun _=>[]) ?_ ?_
 ·exact ⟨⟨rfl,rfl⟩,sq1,sq1⟩
 ·rintro ⟨i,hi⟩
  conv=>whnf
  by_cases hil:(i:Int) < n.names.length
  ·skip
   repeat' (first|(refine aa (fun hb=>?_) (fun hb=>absurd hil hb);conv=>whnf)|(exact a6 [] ⟨i + 1,ω⟩)|refine' ag | fail)
   all_goals try exact ariA
   all_goals (exfalso;simp at hb)
  ·skip
   repeat' (first|(refine aa (fun hb=>absurd hb hil) (fun hb=>?_);conv=>whnf)|refine' ag | fail)
   all_goals try exact ariA
   refine ae (ι:={i:Nat // i <= n.lines.length}) [2,3] [2,3] [] ⟨0,π _⟩ (fun ⟨i,_⟩=>n.lines.length - i) (fun ⟨i,_⟩=>[(6,J i)]) (fun _=>[]) ?_ ?_
   ·exact ⟨⟨rfl,rfl⟩,sq1,sq1⟩
   ·rintro ⟨j,hj⟩
    conv=>whnf
    by_cases hjl:(j:Int) < n.lines.length
    ·have p1:=B6 (n.lines.getD (j:Int).toNat default) (h3 j ω)
     repeat' (first|(refine aa (fun hb=>?_) (fun hb=>absurd hjl hb);conv=>whnf)|(exact a6 [] ⟨j + 1,ω⟩)|refine' ag|(refine ab p1 ?_))
     all_goals try exact ariA
    ·skip
     repeat' (first|(refine aa (fun hb=>absurd hb hjl) (fun hb=>?_);conv=>whnf)|refine' ag | fail)
     all_goals try exact ariA
     refine ae (ι:={i:Nat // i <= n.flows.length}) [2,3] [2,3] [] ⟨0,π _⟩ (fun ⟨i,_⟩=>n.flows.length - i) (fun ⟨i,_⟩=>[(7,J i)]) (fun _=>[]) ?_ ?_
     ·exact ⟨⟨rfl,rfl⟩,sq1,sq1⟩
     ·rintro ⟨k,hk⟩
      conv=>whnf
      by_cases hkl:(k:Int) < n.flows.length
      ·have p1:=B7 (n.flows.getD (k:Int).toNat default) (h5 k ω)
       repeat' (first|(refine aa (fun hb=>?_) (fun hb=>absurd hkl hb);conv=>whnf)|(exact a6 [] ⟨k + 1,ω⟩)|refine' ag|(refine ab p1 ?_))
       all_goals try exact ariA
      ·skip
       repeat' (first|(refine aa (fun hb=>absurd hb hkl) (fun hb=>?_);conv=>whnf)|refine' ag | fail)
       all_goals try exact ariA
       exact ac ⟨true,rfl,rfl⟩
theorem B9 (d:List (List Int)) (hl:d.length <= 1000000) (hr:∀ i,i < d.length -> Fit (d.getD i [])):∃ r:Bool,r = true/\q0d 17 [ay d,ay d] (.bool r):=by
 refine opE func17 ntmps17 results17 ?_
 repeat' (first|(refine ak (fun hb=>absurd rfl hb) (fun hb=>?_);conv=>whnf)|refine' ag | fail)
 all_goals try exact ariB
 refine ae (ι:={i:Nat // i <= d.length}) [0,1] [] [] ⟨0,ω⟩ (fun ⟨i,_⟩=>d.length - i) (fun ⟨i,_⟩=>[(5,J i)]) (fun _=>[]) ?_ ?_
 ·exact ⟨⟨rfl,rfl⟩,sq1,sq1⟩
 ·rintro ⟨i,hi⟩
  conv=>whnf
  by_cases hil:(i:Int) < d.length
  ·have hf:=hr (i:Int).toNat ω
   unfold Fit at hf
   obtain ⟨r,h1,p1⟩:=iH (d.getD (i:Int).toNat []) (d.getD (i:Int).toNat []) ω
   obtain rfl:=h1.2 rfl
   repeat' (first|(refine aa (fun hb=>?_) (fun hb=>absurd hil hb);conv=>whnf)|(exact a6 [] ⟨i + 1,ω⟩)|refine' ag|(refine ab p1 ?_))
   all_goals try exact ariA
  ·skip
   repeat' (first|(refine aa (fun hb=>absurd hb hil) (fun hb=>?_);conv=>whnf)|refine' ag | fail)
   all_goals try exact ariA
   exact ac ⟨true,rfl,rfl⟩
theorem Fn (p:Plan) (h:PlanFit p):NetFit p.net:=by
 refine ⟨h.names,h.lines,h.line,?_,fun i hi=>?_⟩
 ·show (p.proms.map Prom.flow).length <= _
  rw [List.length_map];exact h.proms
 ·rw [nD p]
  exact h.prom i (by have hi:i < (p.proms.map Prom.flow).length:=hi
                     rwa [List.length_map] at hi)
theorem tM (p:Plan) (h:PlanFit p):∃ r:Bool,r = true/\q0d 22 [p.av,p.av] (.bool r):=by
 obtain ⟨_,_,p1⟩:=r9 p h.proms
 obtain ⟨_,rfl,p2⟩:=DM p.net (Fn p h)
 obtain ⟨_,rfl,p3⟩:=B9 p.dels h.dels h.del
 have hl:=h.proms
 refine opE func22 ntmps22 results22 ?_
 repeat' (first|(refine ak (fun hb=>absurd rfl hb) (fun hb=>?_);conv=>whnf)|refine' ag|(refine ab p1 ?_)|(refine ab p2 ?_)|(refine ab p3 ?_))
 all_goals try exact ariB
 refine ae (ι:={i:Nat // i <= p.proms.length}) [2,3] [2,3] [] ⟨0,π _⟩ (fun ⟨i,_⟩=>p.proms.length - i) (fun ⟨i,_⟩=>[(5,J i)]) (fun _=>[]) ?_ ?_
 ·exact ⟨⟨rfl,rfl⟩,sq1,sq1⟩
 ·rintro ⟨i,hi⟩
  conv=>whnf
  by_cases hil:(i:Int) < p.proms.length
  ·have p4:=B8 (p.proms.getD (i:Int).toNat default) (h.prom i ω)
   repeat' (first|(refine aa (fun hb=>?_) (fun hb=>absurd hil hb);conv=>whnf)|(exact a6 [] ⟨i + 1,ω⟩)|refine' ag|(refine ab p4 ?_))
   all_goals try exact ariA
  ·skip
   repeat' (first|(refine aa (fun hb=>absurd hb hil) (fun hb=>?_);conv=>whnf)|refine' ag | fail)
   all_goals try exact ariA
   exact ac ⟨true,rfl,rfl⟩
theorem lt1P {p:Nat -> Prop} (h0:p 0):∀ i,i < 1 -> p i:=fun i hi=>by
 obtain rfl:i = 0:=ω
 exact h0
def lnB (cap:Int):Line:=⟨1,cap,1,[],[]⟩
theorem BA:PlanFit (newP [⟨#[97]⟩] [lnB 10] []):=⟨φ,φ,lt1P ⟨by unfold Fit;decide,by unfold Fit;decide⟩,φ,ν,φ,ν⟩
theorem Fo (s:Rd) (hs:s.ok) (f:Flow):∃ (d p:Int) (s':Rd),(0 <= d/\d <= 2000)/\(0 <= p/\p <= 3)/\s'.ok/\q0c 15 [.lptr 900 0,f.av] [(900,s.ob)] (Prom.av ⟨f,d,p⟩) [(900,s'.ob)]:=by
 obtain ⟨d,s1,hd,o1,p1⟩:=Ff s hs [0,2,4,8,16,40,400,2000] η η
 obtain ⟨p,s2,_,hp,o2,p2⟩:=n_at s1 o1 4 ω ω
 simp only [List.mem_cons,List.not_mem_nil,or_false] at hd
 refine ⟨d,p,s2,ω,ω,o2,?_⟩
 refine opG func15 ntmps15 results15 (fun _ _ _=>?_) (hcl:=⟨rfl,rfl,rfl,aP rfl,aP rfl,rfl⟩)
 repeat' (first|refine' cV|(refine gi [.lptr 900 0] [] p1 rfl rfl rfl (ξ _) ?_ ?_ ?_;rotate_left;rotate_left;conv=>whnf)|(refine aV p2 ?_))
 all_goals first|exact Ψ|rfl|exact bm (by repeat' (first|exact True.intro|rfl|refine And.intro ?_ ?_))
theorem PlanOk.len {p:Plan} (h:PlanOk p):p.proms.length <= 10:=by
 have:=h.net.flen
 rwa [p.net_len] at this
theorem NetOk.some0 {n:Net} (h:NetOk n):NetOk ⟨n.names,n.lines,[]⟩:=⟨h.len,by simp,h.nlen,h.word,h.nodup,h.line,fun f hf=>(by cases hf),List.nodup_nil,fun f hf=>(by cases hf)⟩
open Go.Proofs Go.RowKit
theorem CallSpec.law {P:Program} {f:FuncId} {vs:List AV} {v:Bool} (h:CallSpec P f vs [] (.bool v) []) {w:World} {xs:Array Value} (Im:Nat -> Prop) (him:∀ b,Im b -> b < w.heap.size) (hx:Cons (fun _=>(none,0)) Im w.heap vs xs) :
  Calls P f xs w fun e w'=>e = .returned (.bool v)/\Below w.heap.size w w':=by
 refine (h.calls w (fun _=>(none,0)) Im xs ?_ hx).mono fun e w' he=>?_
 ·refine ⟨?_,?_,?_,?_,him,fun _ h=>h,fun _ h=>.inl h,rfl,rfl,rfl,ξ _,fun _ _ _=>rfl,fun id h=>(by cases h),fun l r h=>⟨r.state,r.pending,h⟩,fun l h=>(by cases h)⟩
  ·intro id ob h;cases h
  ·intro id ob b h;cases h
  ·intro id id' ob ob' b h;cases h
  ·intro id ob h;cases h
 ·obtain ⟨y,ρ',Im',rfl,hc,_,hm⟩:=he
  refine ⟨?_,hm.os,hm.tape,hm.output,hm.size,fun k hk=>hm.frame k hk (by intro id hid;cases hid)⟩
  cases hc with
  | imm _ _ h=>cases h;rfl
end Go.Nc