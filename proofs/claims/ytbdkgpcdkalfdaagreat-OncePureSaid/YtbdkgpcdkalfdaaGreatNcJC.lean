/- Merged: J10, J11, OC, J12, JOF, J13, J14, J15, J16. -/
import Derived.Test.YtbdkgpcdkalfdaaGreatNcJB
import Derived.Test.YtbdkgpcdkalfdaaGreatNcQC
namespace Go.Nc
open Go.Proofs.Tryz
open Go.Proofs
mutual
theorem frz_nm (id:Nat) (ob:LObj):∀ v:AV,nmV [] v = true -> frzC id ob v/\frzV id ob v = v
 | .fn g cs,h=>by
  have:=frzL_nm id ob cs (by simpa [nmV] using h)
  exact ⟨by simpa [frzC] using this.1,by simp only [frzV,this.2]⟩
 | .agg cs,h=>by
  have:=frzL_nm id ob cs (by simpa [nmV] using h)
  exact ⟨by simpa [frzC] using this.1,by simp only [frzV,this.2]⟩
 | .tup cs,h=>by
  have:=frzL_nm id ob cs (by simpa [nmV] using h)
  exact ⟨by simpa [frzC] using this.1,by simp only [frzV,this.2]⟩
 | .lptr ..,h | .osl ..,h | .osub ..,h | .optr ..,h | .mref ..,h | .yld ..,h=>by simp [nmV] at h
 | .int ..,_ | .bool ..,_ | .str ..,_ | .junk,_ | .isl ..,_ | .icap ..,_ | .eptr ..,_ | .ibox ..,_ | .nils,_ | .emp,_ | .niface,_ | .nfunc,_ | .nptr,_ | .nmap,_ | .iface ..,_=>⟨by simp [frzC],rfl⟩
theorem frzL_nm (id:Nat) (ob:LObj):∀ l:List AV,nmL [] l = true -> frzCL id ob l/\frzL id ob l = l
 | [],_=>⟨trivial,rfl⟩
 | c :: cs,h=>by
  simp only [nmL,Bool.and_eq_true] at h
  have h1:=frz_nm id ob c h.1
  have h2:=frzL_nm id ob cs h.2
  exact ⟨⟨h1.1,h2.1⟩,by simp only [frzL,h1.2,h2.2]⟩
end
structure Ord (N:Nat) (E:Nat -> Nat -> Bool) (l:List Nat):Prop where
 nodup:l.Nodup
 lt:∀ x ∈ l,x < N
 topo:∀ p b q,l = p ++ b :: q -> ∀ a,a < N -> E a b = true -> a ∈ p
theorem Ord.nil {N:Nat} {E:Nat -> Nat -> Bool}:Ord N E []:=⟨List.nodup_nil,fun x hx=>(by cases hx),fun p b q h=>(by cases p<;>cases h)⟩
def LeastF (N:Nat) (E:Nat -> Nat -> Bool) (o:List Nat) (r:Nat):Prop:=(r < N/\r ∉ o/\∀ a,a < N -> E a r = true -> a ∈ o)/\∀ b,b < r -> b ∈ o \/ ∃ a,a < N/\a ∉ o/\E a b = true
def OrdC (N:Nat) (E:Nat -> Nat -> Bool) (l:List Nat):Prop:=∀ i,i < l.length -> LeastF N E (l.take i) (l.getD i 0)
theorem OrdC.nil {N:Nat} {E:Nat -> Nat -> Bool}:OrdC N E []:=ν
def cntL (y:Nat):List (Nat × Nat) -> Int
 | []=>0
 | p :: r=>(if p.2 = y then 1 else 0) + cntL y r
def inSum (E:Nat -> Nat -> Bool) (y:Nat):Nat -> Int:=bsum fun x=>if E x y = true then 1 else 0
structure EdgL (N:Nat) (E:Nat -> Nat -> Bool) (a b:Nat) (l:List (Nat × Nat)):Prop where
 len:l.length <= N * a + b
 lt:∀ p ∈ l,p.1 < N/\p.2 < N
 cnt:∀ y,y < N -> cntL y l = inSum E y a + (if y < b/\E a y = true then 1 else 0)
theorem EdgL.nil {N:Nat} {E:Nat -> Nat -> Bool}:EdgL N E 0 0 []:=⟨π _,fun p hp=>(by cases hp),fun y hy=>by
 show (0:Int) = 0 + _
 rw [if_neg (fun h=>absurd h.1 (Nat.not_lt_zero y))]
 rfl⟩
theorem EdgL.row {N:Nat} {E:Nat -> Nat -> Bool} {a:Nat} {l:List (Nat × Nat)} (h:EdgL N E a N l):EdgL N E (a + 1) 0 l:=by
 refine ⟨by have:=h.len;rw [Nat.mul_succ];omega,h.lt,fun y hy=>?_⟩
 rw [h.cnt y hy]
 show _ = inSum E y a + (if E a y = true then 1 else 0) + _
 simp only [hy,true_and,Nat.not_lt_zero,false_and,if_false]
 omega
def CD (s:ByteArray):Prop:=WordP s
theorem jr (i:Nat):CD (jC i):=pn i
theorem oD (i:Nat):CD (cB i):=pq i
structure NamesOk (n:Net):Prop where
 names:∀ x ∈ n.names,CD x
 flows:∀ f ∈ n.flows,CD f.name
set_option maxHeartbeats 1000000 in
theorem dV (c:Curve) (h:ValidF c):∃ b:Bool,b = true/\q0d 95 [c.av] (.bool b):=by
 have hl:=h.len
 have hpp:=h.per
 have hi:=h.inc
 have hlast:=h.last
 have ell:((c.vals.length:Int) - 1).toNat = c.vals.length - 1:=ω
 have b2:=h.val (c.vals.length - 1) ω
 have b3:=h.val ((c.vals.length:Int) - c.per).toNat ω
 rw [<- ell] at hlast b2
 refine opE func95 ntmps95 results95 ?_
 repeat' (first|refine' bM | fail)
 all_goals try exact ariA
 all_goals try exact ⟨false,rfl,by exfalso;omega⟩
 refine ag (ι:={i:Nat // i <= c.vals.length}) [1,3] [1] [] ⟨0,ω⟩ (fun ⟨i,_⟩=>c.vals.length - i) (fun ⟨i,_⟩=>[(4,.int .i64 i)]) (fun _=>[]) ?_ ?_
 ·exact ⟨⟨rfl,rfl⟩,sq1,sq1⟩
 ·rintro ⟨i,hi1⟩
  conv=>whnf
  have b1:i < c.vals.length -> 0 <= c.vals.getD (i:Int).toNat 0/\c.vals.getD (i:Int).toNat 0 <= 1073741824:=fun hi=>h.val _ ω
  have m1:i < c.vals.length -> 0 < i -> c.vals.getD ((i:Int) - 1).toNat 0 <= c.vals.getD (i:Int).toNat 0:=fun hi h0=>by
   have:=h.mono (i - 1) ω
   rw [(ω:i - 1 + 1 = i)] at this
   rw [(ω:((i:Int) - 1).toNat = i - 1),(ω:((i:Int)).toNat = i)]
   exact this
  repeat' (first|(exact aK [] ⟨i + 1,ω⟩)|refine' bM | fail)
  all_goals try first|exact ariA|exact ⟨false,rfl,by exfalso;omega⟩
  all_goals exact ⟨_,rfl,decide_eq_true ω⟩
theorem bF (c:Curve) (h:ValidF c):∃ b:Bool,b = true/\q0d 97 [c.av] (.bool b):=by
 have hl:=h.len
 obtain ⟨_,rfl,p1⟩:=dV c h
 have ell:((c.vals.length:Int) - 1).toNat = c.vals.length - 1:=ω
 have b2:=h.val (c.vals.length - 1) ω
 rw [<- ell] at b2
 refine opE func97 ntmps97 results97 ?_
 repeat' (first|refine' bM|(refine ab p1 ?_))
 all_goals try exact ariB
 all_goals first|exact ⟨true,rfl,rfl⟩|exact ⟨_,rfl,by rw [decide_eq_false ω];rfl⟩
theorem ku (n:Net) (h:NetOk n) (_:NamesOk n):∃ e:Int,e = 0/\q0d 48 [n.av] (.int .i64 e):=⟨_,(jG n).2 h,mV n⟩
theorem NetOk.names {n:Net} (h:NetOk n):NamesOk n:=⟨h.word,h.fword⟩
end Go.Nc