/- keep: numbers. -/
import Derived.Test.YtdkcmppdckkofaaGreatNcSh
namespace Go.Nc
open Go.Proofs.Tryz
open Go.Proofs
def Rd.raw (s:Rd):Int × Rd:=if (s.l.length:Int) <= s.pos then (0,s) else (s.l.getD s.pos 0,⟨s.l,s.pos + 1⟩)
def Rd.ok (s:Rd):Prop:=s.pos <= 2000/\s.l.length <= 2000
theorem Rd.raw_ok {s:Rd} (h:s.ok):s.raw.2.ok:=by
 unfold Rd.raw Rd.ok at *
 split
 ·exact h
 ·exact ⟨κ,h.2⟩
def mod (x n:Int):Int:=if n < 1 then 0 else if x.tmod n < 0 then x.tmod n + n else x.tmod n
theorem mod_lt {x n:Int} (h:0 < n):0 <= mod x n/\mod x n < n:=by
 have h1:=Int.tmod_lt_of_pos x h
 have h2:=Int.lt_tmod_of_pos x h
 unfold mod
 split
 ·omega
 ·split<;>omega
theorem uL (x n:Int) (hn:aj n):q0c 89 [.int .i64 x,.int .i64 n] (.int .i64 (mod x n)):=by
 refine opG func89 ntmps89 results89 fun w0 Im0 ρ0=>?_
 repeat' (first|refine' ak | fail)
 all_goals try (refine Ψ ?_;simp [mod,dP, *];done)
 all_goals unfold aj at *
 all_goals try omega
 have h1:=Int.tmod_lt_of_pos x (ω:0 < n)
 have h2:=Int.lt_tmod_of_pos x (ω:0 < n)
 omega
set_option maxHeartbeats 1000000 in
theorem AG (s:Rd) (hs:s.ok):q0b 90 [.lptr 900 0] [(900,s.ob)] (.int .i64 s.raw.1) [(900,s.raw.2.ob)]:=by
 have hs1:=hs.1
 refine aQ aB _ 31 [.tmp 2] func90 rfl (by kernel_rfl) ntmps90 (by rw [results90]) η ⟨rfl,rfl,rfl,aE rfl,aE rfl,rfl⟩ fun w0 Im0 ρ0=>?_
 repeat' (first|refine' dG | fail)
 all_goals try exact υ
 all_goals try omega
 ·rw [show s.raw = (0,s) from if_pos ‹_›];exact Φ
 ·rw [show s.raw = (0,s) from if_pos ‹_›];rfl
 ·rw [show s.raw = _ from if_neg ‹_›]
  refine Ψ ?_
  simp [dP]
 ·rw [show s.raw = _ from if_neg ‹_›];rfl
def Rd.n (k:Int) (s:Rd):Int × Rd:=(mod s.raw.1 k,s.raw.2)
theorem Rd.n_ok {s:Rd} (k:Int) (h:s.ok):(s.n k).2.ok:=s.raw_ok h
theorem iI (s:Rd) (hs:s.ok) (k:Int) (hk:aj k):q0b 30 [.lptr 900 0,.int .i64 k] [(900,s.ob)] (.int .i64 (s.n k).1) [(900,(s.n k).2.ob)]:=by
 refine aQ aB _ 9 [.tmp 4] func30 rfl (by kernel_rfl) ntmps30 (by rw [results30]) η ⟨rfl,rfl,rfl,aE rfl,aE rfl,rfl⟩ fun w0 Im0 ρ0=>?_
 repeat' (first|refine' dG|refine a6 (AG s hs) ?_|refine ab (uL _ _ hk) ?_)
 ·exact Φ
 ·rfl
def Rd.pick (l:List Int) (s:Rd):Int × Rd:=(l.getD (s.n l.length).1.toNat 0,(s.n l.length).2)
theorem lO (s:Rd) (hs:s.ok) (l:List Int) (hl:0 < l.length) (hl2:l.length <= 2000):q0b 85 [.lptr 900 0,ints l] [(900,s.ob)] (.int .i64 (s.pick l).1) [(900,(s.pick l).2.ob)]:=by
 have hm:=mod_lt (x:=s.raw.1) (n:=l.length) ω
 refine aQ aB _ 12 [.tmp 4] func85 rfl (by kernel_rfl) ntmps85 (by rw [results85]) η ⟨rfl,rfl,rfl,aE rfl,aE rfl,rfl⟩ fun w0 Im0 ρ0=>?_
 repeat' (first|refine' dG|refine a6 (iI s hs l.length υ) ?_)
 ·exact Φ
 ·rfl
 ·exact hm
def Rd.range (lo hi:Int) (s:Rd):Int × Rd:=(lo + (s.n (hi - lo + 1)).1,(s.n (hi - lo + 1)).2)
theorem cY (s:Rd) (hs:s.ok) (lo hi:Int) (h1:-1000000 <= lo) (h2:lo <= hi) (h3:hi <= 1000000):q0b 18 [.lptr 900 0,.int .i64 lo,.int .i64 hi] [(900,s.ob)] (.int .i64 (s.range lo hi).1) [(900,(s.range lo hi).2.ob)]:=by
 have hm:=mod_lt (x:=s.raw.1) (n:=hi - lo + 1) ω
 refine aQ aB _ 15 [.tmp 6] func18 rfl (by kernel_rfl) ntmps18 (by rw [results18]) η ⟨rfl,rfl,rfl,aE rfl,aE rfl,rfl⟩ fun w0 Im0 ρ0=>?_
 repeat' (first|refine' dG|refine a6 (iI s hs (hi - lo + 1) υ) ?_)
 ·exact Φ
 ·rfl
 ·unfold aj;show _ <= lo + mod _ _/\lo + mod _ _ <= _;omega
 ·unfold aj;omega
 ·unfold aj;omega
def Rd.new (l:List Int):Rd:=⟨l.take 2000,0⟩
theorem new_ok (l:List Int):(Rd.new l).ok:=⟨by simp [Rd.new],by simp [Rd.new];omega⟩
theorem AH (l:List Int):q0b 16 [ints l] [] (.lptr 900 0) [(900,(Rd.new l).ob)]:=by
 refine aQ aB _ 10 [.tmp 2] func16 rfl (by kernel_rfl) ntmps16 (by rw [results16]) η ⟨rfl,rfl,rfl,by simp,aE rfl,rfl⟩ fun w0 Im0 ρ0=>?_
 repeat' (first|(refine gv ?_;conv=>whnf)|(refine Side.mk ?_ ?_;rotate_left;conv=>whnf))
 ·refine ⟨⟨[(2,.lptr 900 0)],[(900,some (Rd.new l).ob)]⟩,dO [(900,9)] ⟨⟨rfl,rfl⟩,⟨⟨rfl,?_⟩,trivial⟩,⟨rfl,Φ⟩,trivial⟩,Φ,rfl,trivial⟩
  refine ObLe.box (.cons (Ξ ?_ fun i hi=>?_) (.cons Φ .nil))
  ·simp [Rd.new];omega
  ·have:i < 2000:=ω
   simp [Rd.new,this]
 ·omega
end Go.Nc
