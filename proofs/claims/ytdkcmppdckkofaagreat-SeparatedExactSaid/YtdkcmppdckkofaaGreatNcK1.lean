/- keep: numbers. -/
import Derived.Test.YtdkcmppdckkofaaGreatNcSh
namespace Go.Nc
open Go.Proofs.Tryz
open Go.Proofs
def Rd.raw (s:Rd):Int × Rd:=if (s.l.length:Int) <= s.pos then (0,s) else (s.l.getD s.pos 0,⟨s.l,s.pos + 1⟩)
def Rd.ok (s:Rd):Prop:=s.pos <= 2000/\s.l.length <= 2000
theorem Rd.raw_ok {s:Rd} (h:s.ok):s.raw.2.ok:=by
 unfold Rd.raw Rd.ok at *
 split
 ·exact h
 ·exact ⟨by dsimp only;omega,h.2⟩
def mod (x n:Int):Int:=if n < 1 then 0 else if x.tmod n < 0 then x.tmod n + n else x.tmod n
theorem mod_lt {x n:Int} (h:0 < n):0 <= mod x n/\mod x n < n:=by
 have h1:=Int.tmod_lt_of_pos x h
 have h2:=Int.lt_tmod_of_pos x h
 unfold mod
 split
 ·omega
 ·split<;>omega
theorem tC (x n:Int) (hn:inI64 n):CallSpec prog 89 [.int .i64 x,.int .i64 n] [] (.int .i64 (mod x n)) []:=by
 refine opG func89 ntmps89 results89 fun w0 Im0 ρ0=>?_
 repeat' (first|refine' aj | fail)
 all_goals try (refine AvLe.of_eq ?_;simp [mod,dn, *];done)
 all_goals unfold inI64 at *
 all_goals try omega
 have h1:=Int.tmod_lt_of_pos x (show 0 < n by omega)
 have h2:=Int.lt_tmod_of_pos x (show 0 < n by omega)
 omega
set_option maxHeartbeats 1000000 in
theorem zk (s:Rd) (hs:s.ok):CallSpec prog 90 [.lptr 900 0] [(900,s.ob)] (.int .i64 s.raw.1) [(900,s.raw.2.ob)]:=by
 have hs1:=hs.1
 refine aL a8 _ 31 [.tmp 2] func90 rfl (by kernel_rfl) ntmps90 (by rw [results90]) (by simp) ⟨rfl,rfl,rfl,aC rfl,aC rfl,rfl⟩ fun w0 Im0 ρ0=>?_
 repeat' (first|refine' dB | fail)
 all_goals try (unfold inI64;omega)
 all_goals try omega
 ·rw [show s.raw = (0,s) from if_pos ‹_›];exact AvLe.rfl
 ·rw [show s.raw = (0,s) from if_pos ‹_›];rfl
 ·rw [show s.raw = _ from if_neg ‹_›]
  refine AvLe.of_eq ?_
  simp [dn]
 ·rw [show s.raw = _ from if_neg ‹_›];rfl
def Rd.n (k:Int) (s:Rd):Int × Rd:=(mod s.raw.1 k,s.raw.2)
theorem Rd.n_ok {s:Rd} (k:Int) (h:s.ok):(s.n k).2.ok:=s.raw_ok h
theorem iz (s:Rd) (hs:s.ok) (k:Int) (hk:inI64 k):CallSpec prog 30 [.lptr 900 0,.int .i64 k] [(900,s.ob)] (.int .i64 (s.n k).1) [(900,(s.n k).2.ob)]:=by
 refine aL a8 _ 9 [.tmp 4] func30 rfl (by kernel_rfl) ntmps30 (by rw [results30]) (by simp) ⟨rfl,rfl,rfl,aC rfl,aC rfl,rfl⟩ fun w0 Im0 ρ0=>?_
 repeat' (first|refine' dB|(refine ay (zk s hs) ?_)|(refine ab (tC _ _ hk) ?_))
 ·exact AvLe.rfl
 ·rfl
def Rd.pick (l:List Int) (s:Rd):Int × Rd:=(l.getD (s.n l.length).1.toNat 0,(s.n l.length).2)
theorem lz (s:Rd) (hs:s.ok) (l:List Int) (hl:0 < l.length) (hl2:l.length <= 2000):CallSpec prog 85 [.lptr 900 0,ints l] [(900,s.ob)] (.int .i64 (s.pick l).1) [(900,(s.pick l).2.ob)]:=by
 have hm:=mod_lt (x:=s.raw.1) (n:=l.length) (by omega)
 refine aL a8 _ 12 [.tmp 4] func85 rfl (by kernel_rfl) ntmps85 (by rw [results85]) (by simp) ⟨rfl,rfl,rfl,aC rfl,aC rfl,rfl⟩ fun w0 Im0 ρ0=>?_
 repeat' (first|refine' dB|(refine ay (iz s hs l.length (by unfold inI64;omega)) ?_))
 ·exact AvLe.rfl
 ·rfl
 ·exact hm
def Rd.range (lo hi:Int) (s:Rd):Int × Rd:=(lo + (s.n (hi - lo + 1)).1,(s.n (hi - lo + 1)).2)
theorem cJ (s:Rd) (hs:s.ok) (lo hi:Int) (h1:-1000000 <= lo) (h2:lo <= hi) (h3:hi <= 1000000):CallSpec prog 18 [.lptr 900 0,.int .i64 lo,.int .i64 hi] [(900,s.ob)] (.int .i64 (s.range lo hi).1) [(900,(s.range lo hi).2.ob)]:=by
 have hm:=mod_lt (x:=s.raw.1) (n:=hi - lo + 1) (by omega)
 refine aL a8 _ 15 [.tmp 6] func18 rfl (by kernel_rfl) ntmps18 (by rw [results18]) (by simp) ⟨rfl,rfl,rfl,aC rfl,aC rfl,rfl⟩ fun w0 Im0 ρ0=>?_
 repeat' (first|refine' dB|(refine ay (iz s hs (hi - lo + 1) (by unfold inI64;omega)) ?_))
 ·exact AvLe.rfl
 ·rfl
 ·unfold inI64;show _ <= lo + mod _ _/\lo + mod _ _ <= _;omega
 ·unfold inI64;omega
 ·unfold inI64;omega
def Rd.new (l:List Int):Rd:=⟨l.take 2000,0⟩
theorem new_ok (l:List Int):(Rd.new l).ok:=⟨by simp [Rd.new],by simp [Rd.new];omega⟩
theorem zn (l:List Int):CallSpec prog 16 [ints l] [] (.lptr 900 0) [(900,(Rd.new l).ob)]:=by
 refine aL a8 _ 10 [.tmp 2] func16 rfl (by kernel_rfl) ntmps16 (by rw [results16]) (by simp) ⟨rfl,rfl,rfl,by simp,aC rfl,rfl⟩ fun w0 Im0 ρ0=>?_
 repeat' (first|(refine gv ?_;conv=>whnf)|(refine Side.mk ?_ ?_;rotate_left;conv=>whnf))
 ·refine ⟨⟨[(2,.lptr 900 0)],[(900,some (Rd.new l).ob)]⟩,d9 [(900,9)] ⟨⟨rfl,rfl⟩,⟨⟨rfl,?_⟩,trivial⟩,⟨rfl,AvLe.rfl⟩,trivial⟩,AvLe.rfl,rfl,trivial⟩
  refine ObLe.box (.cons (AvLe.isl ?_ fun i hi=>?_) (.cons AvLe.rfl .nil))
  ·simp [Rd.new];omega
  ·have:i < 2000:=by omega
   simp [Rd.new,List.getD_eq_getElem?_getD,this]
 ·omega
end Go.Nc
