/- Merged: RW0, RW1, RW2, RW3, RW4, RW5, RW6. -/
import Derived.Test.YtdkcmppdckkofaaGreatNcJD
import Derived.Test.YtdkcmppdckkofaaGreatNcRBC
import Derived.Test.YtdkcmppdckkofaaGreatNcKB
import Derived.Test.YtdkcmppdckkofaaGreatNcKC
namespace Go.Nc
open Go.Proofs.Tryz
open Go.Proofs
theorem um (s:ByteArray):∃ b:Bool,(b = true -> dE s/\oU s)/\CallSpec prog 202 [.str s] [] (.bool b) []:=by
 obtain ⟨b,hb,p⟩:=oB s
 obtain ⟨c,hc,q⟩:=l6 s
 refine ⟨b,fun h=>?_,p⟩
 subst h
 rw [hc.2 (hb.1 rfl)] at q
 exact ⟨p,q⟩
theorem rq (s:ByteArray):∃ b:Bool,(b = true -> dE s/\oU s)/\CallSpec prog 133 [.str s] [] (.bool b) []:=by
 obtain ⟨b,hb,p⟩:=l6 s
 obtain ⟨c,hc,q⟩:=oB s
 refine ⟨b,fun h=>?_,p⟩
 subst h
 rw [hc.2 (hb.1 rfl)] at q
 exact ⟨q,p⟩
theorem sS (n lo hi:Int):∃ b:Bool,(b = false -> lo <= n/\n <= hi)/\CallSpec prog 285 [.int .i64 n,.ibox [.int .i64 lo] 0,.ibox [.int .i64 hi] 0] [] (.bool b) []:=by
 by_cases h:lo <= n/\n <= hi
 ·exact ⟨false,fun _=>h,k6 n lo hi h.1 h.2⟩
 ·refine ⟨true,fun e=>(by cases e),?_⟩
  refine opG func285 ntmps285 results285 fun w0 Im0 ρ0=>?_
  repeat' (first|refine' aj | fail)
  all_goals first|omega|exact AvLe.rfl|exact AvLe.of_eq (by rw [decide_eq_true (by omega)];rfl)
theorem Bp (l:List Int) (lo hi:Int) (hl:l.length <= 2000):∃ r:Int,(r < 0 -> ∀ x ∈ l,lo <= x/\x <= hi)/\CallSpec prog 292 [ints l,.fn 285 [.ibox [.int .i64 lo] 0,.ibox [.int .i64 hi] 0]] [] (.int .i64 r) []:=by
 refine opE func292 ntmps292 results292 ?_
 repeat' (first|refine' ah | fail)
 all_goals try exact ariA
 refine ag (ι:={j:Nat // j <= l.length/\∀ i,i < j -> lo <= l.getD i 0/\l.getD i 0 <= hi}) [0,1,7] [] [] ⟨0,Nat.zero_le _,fun i hi=>absurd hi (Nat.not_lt_zero i)⟩ (fun ⟨j,_⟩=>l.length - j) (fun ⟨j,_⟩=>[(8,.int .i64 j)]) (fun _=>[]) ?_ ?_
 ·refine ⟨⟨rfl,rfl⟩,?_,?_⟩
  all_goals exact sq1
 ·rintro ⟨j,hj,hI⟩
  conv=>whnf
  by_cases hjl:(j:Int) < l.length
  ·obtain ⟨b,hb0,p⟩:=sS (l.getD (j:Int).toNat 0) lo hi
   rcases b with _ | _
   ·skip
    repeat' (first|(refine aa (fun hb=>?_) (fun hb=>absurd hjl hb);conv=>whnf)|(exact aI [] ⟨j + 1,by omega,fun i hi=>(Nat.lt_or_ge i j).elim (hI i) fun h9=>by have e9:i = j:=(by omega);subst e9;exact hb0 rfl⟩)|refine' ah|(refine ab p ?_))
    all_goals try exact ariA
   ·skip
    repeat' (first|(refine aa (fun hb=>?_) (fun hb=>absurd hjl hb);conv=>whnf)|refine' ah|(refine ab p ?_))
    all_goals try exact ariA
    exact ae ⟨j,rfl,fun h=>by omega⟩
  ·skip
   repeat' (first|(refine aa (fun hb=>absurd hb hjl) (fun hb=>?_);conv=>whnf)|refine' ah | fail)
   all_goals try exact ariA
   refine ae ⟨-1,rfl,fun _ x hx=>?_⟩
   obtain ⟨i,hi,e⟩:=List.mem_iff_getElem.1 hx
   have:=hI i (by omega)
   rw [List.getD_eq_getElem?_getD,List.getElem?_eq_getElem hi] at this
   rw [<- e]
   exact this
theorem cf_raw (l:List Int) (lo hi:Int) (hl:l.length <= 2000):∃ b:Bool,(b = false -> ∀ x ∈ l,lo <= x/\x <= hi)/\CallSpec prog 284 [ints l,.fn 285 [.ibox [.int .i64 lo] 0,.ibox [.int .i64 hi] 0]] [] (.bool b) []:=by
 obtain ⟨r,hr,p⟩:=Bp l lo hi hl
 refine ⟨decide (0 <= r),fun e=>hr (by have:=of_decide_eq_false e;omega),?_⟩
 refine opG func284 ntmps284 results284 fun w0 Im0 ρ0=>?_
 repeat' (first|refine' aj|(refine ab p ?_))
 all_goals exact AvLe.rfl
theorem kl (l:List Int) (lo hi:Int) (hl:l.length <= 2000):∃ b:Bool,(b = true -> ∀ x ∈ l,lo <= x/\x <= hi)/\CallSpec prog 282 [ints l,.int .i64 lo,.int .i64 hi] [] (.bool b) []:=by
 obtain ⟨b,hb,p⟩:=cf_raw l lo hi hl
 refine ⟨!b,fun e=>hb (by cases b<;>first|rfl | cases e),?_⟩
 refine opG func282 ntmps282 results282 fun w0 Im0 ρ0=>?_
 refine gv ?_
 conv=>whnf
 refine dR 4 rfl rfl rfl ?_ ?_ ?_
 rotate_left
 rotate_left
 refine dR 5 rfl rfl rfl ?_ ?_ ?_
 rotate_left
 rotate_left
 refine aP [] [] [] [(0,ints l),(4,.ibox [.int .i64 lo] 0),(5,.ibox [.int .i64 hi] 0)] [] ⟨⟨rfl,rfl⟩,?_,?_⟩ ?_
 rotate_left
 rotate_left
 conv=>whnf
 repeat' (first|refine' aj|(refine ab p ?_))
 all_goals try refine' frzZ
 all_goals try dsimp only at hb
 all_goals try simp only [Int.toNat_natCast] at hb
 all_goals first|exact AvLe.rfl|exact fun _ _=>rfl|omega|(dsimp only;omega)|(dsimp only;unfold inI64;omega)|((repeat' (first|exact True.intro|refine And.intro ?_ ?_))<;>first|rfl|exact fun _ _=>rfl|(refine AvLe.int ?_;dsimp only;omega)|((conv=>whnf)<;>first|exact AvLe.rfl|exact ObLe.rfl|(refine AvLe.int ?_;dsimp only;omega)))
theorem cD (r:Bool) (L:List (List Int)) (hm:L.length <= 10):∃ e:Int,(e = 0 -> r = true/\∀ l ∈ L,l = [])/\CallSpec prog 268 [.bool r,.isl L.length 1 fun i=>[ints (L.getD i [])]] [] (.int .i64 e) []:=by
 cases r with
 | false=>
  refine ⟨2,fun h=>absurd h (by decide),?_⟩
  refine opG func268 ntmps268 results268 fun w0 Im0 ρ0=>?_
  repeat' (first|refine' aj | fail)
  all_goals exact AvLe.rfl
 | true=>
  refine opE func268 ntmps268 results268 ?_
  repeat' (first|refine' ah | fail)
  all_goals try exact ariA
  refine ag (ι:={j:Nat // j <= L.length/\∀ i,i < j -> L.getD i [] = []}) [9,10] [] [] ⟨0,Nat.zero_le _,fun i hi=>absurd hi (Nat.not_lt_zero i)⟩ (fun ⟨j,_⟩=>L.length - j) (fun ⟨j,_⟩=>[(11,.int .i64 j)]) (fun _=>[]) ?_ ?_
  ·refine ⟨⟨rfl,rfl⟩,?_,?_⟩
   all_goals exact sq1
  ·rintro ⟨j,hj,hI⟩
   conv=>whnf
   by_cases hjl:(j:Int) < L.length
   ·by_cases hx:0 < ((L.getD (j:Int).toNat []).length:Int)
    ·skip
     repeat' (first|(refine aa (fun hb=>?_) (fun hb=>absurd hx hb);conv=>whnf)|(refine aa (fun hb=>?_) (fun hb=>absurd hjl hb);conv=>whnf)|refine' ah | fail)
     all_goals try exact ariA
     exact ae ⟨6,rfl,fun h=>absurd h (by decide)⟩
    ·have e0:L.getD j [] = []:=List.eq_nil_of_length_eq_zero (by have:(L.getD (j:Int).toNat []) = L.getD j []:=rfl;rw [this] at hx;omega)
     repeat' (first|(refine aa (fun hb=>absurd hb hx) (fun hb=>?_);conv=>whnf)|(refine aa (fun hb=>?_) (fun hb=>absurd hjl hb);conv=>whnf)|(exact aI [] ⟨j + 1,by omega,fun i hi=>(Nat.lt_or_ge i j).elim (hI i) fun h9=>by have e9:i = j:=(by omega);subst e9;exact e0⟩)|refine' ah | fail)
     all_goals try exact ariA
   ·skip
    repeat' (first|(refine aa (fun hb=>absurd hb hjl) (fun hb=>?_);conv=>whnf)|refine' ah | fail)
    all_goals try exact ariA
    refine ae ⟨0,rfl,fun _=>⟨rfl,fun x hx=>?_⟩⟩
    obtain ⟨i,hi,e⟩:=List.mem_iff_getElem.1 hx
    have:=hI i (by omega)
    rw [List.getD_eq_getElem?_getD,List.getElem?_eq_getElem hi] at this
    rw [<- e]
    exact this
theorem An (k cap cls:Int) (ws sl:List Int):∃ e:Int,(e = 0 -> ws = []/\sl = [])/\CallSpec prog 265 [.agg [],Line.av ⟨k,cap,cls,ws,sl⟩] [] (.int .i64 e) []:=by
 obtain ⟨e,he,p⟩:=cD true [ws,sl] (by simp)
 refine ⟨e,fun h=>⟨(he h).2 _ (by simp),(he h).2 _ (by simp)⟩,?_⟩
 refine opG func265 ntmps265 results265 fun w0 Im0 ρ0=>?_
 repeat' (first|refine' aj|(refine aV [.bool true] [] p rfl (Nat.le_refl _) ?_ ?_ ?_;rotate_left;rotate_left;conv=>whnf))
 all_goals first|exact AvLe.rfl|exact aF (by repeat' (first|exact True.intro|rfl|refine And.intro ?_ ?_))
theorem yr (k cap cls:Int) (ws sl:List Int):∃ e:Int,(e = 0 -> ws = []/\sl = [])/\CallSpec prog 269 [.agg [],Line.av ⟨k,cap,cls,ws,sl⟩] [] (.int .i64 e) []:=by
 obtain ⟨e,he,p⟩:=cD true [ws,sl] (by simp)
 refine ⟨e,fun h=>⟨(he h).2 _ (by simp),(he h).2 _ (by simp)⟩,?_⟩
 refine opG func269 ntmps269 results269 fun w0 Im0 ρ0=>?_
 repeat' (first|refine' aj|(refine aV [.bool true] [] p rfl (Nat.le_refl _) ?_ ?_ ?_;rotate_left;rotate_left;conv=>whnf))
 all_goals first|exact AvLe.rfl|exact aF (by repeat' (first|exact True.intro|rfl|refine And.intro ?_ ?_))
theorem yu (k cap cls:Int) (hc:1 <= cls/\cls <= 6) (ws sl:List Int):∃ e:Int,(e = 0 -> cls = ws.length/\(∀ x ∈ ws,1 <= x/\x <= 20)/\sl = [])/\CallSpec prog 279 [.agg [],Line.av ⟨k,cap,cls,ws,sl⟩] [] (.int .i64 e) []:=by
 by_cases hl:(ws.length:Int) = cls
 ·obtain ⟨b,hb,q⟩:=kl ws 1 20 (by omega)
  obtain ⟨e,he,p⟩:=cD b [sl] (by simp)
  refine ⟨e,fun h=>⟨hl.symm,hb (he h).1,(he h).2 _ (by simp)⟩,?_⟩
  refine opG func279 ntmps279 results279 fun w0 Im0 ρ0=>?_
  repeat' (first|refine' aj|(refine ab q ?_)|(refine aV [.bool b] [] p rfl (Nat.le_refl _) ?_ ?_ ?_;rotate_left;rotate_left;conv=>whnf))
  all_goals first|exact AvLe.rfl|exact absurd hl (by assumption)|exact aF (by repeat' (first|exact True.intro|rfl|refine And.intro ?_ ?_))
 ·obtain ⟨e,he,p⟩:=cD false [sl] (by simp)
  refine ⟨e,fun h=>absurd (he h).1 (by decide),?_⟩
  refine opG func279 ntmps279 results279 fun w0 Im0 ρ0=>?_
  repeat' (first|(refine aa (fun hb=>absurd hb hl) (fun hb=>?_);conv=>whnf)|refine' aj|(refine aV [.bool false] [] p rfl (Nat.le_refl _) ?_ ?_ ?_;rotate_left;rotate_left;conv=>whnf))
  all_goals first|exact AvLe.rfl|exact aF (by repeat' (first|exact True.intro|rfl|refine And.intro ?_ ?_))
theorem ru (k cap cls:Int) (hc:1 <= cls/\cls <= 6) (ws sl:List Int):∃ e:Int,(e = 0 -> cls = ws.length/\(∀ x ∈ ws,1 <= x/\x <= 6000)/\sl = [])/\CallSpec prog 294 [.agg [],Line.av ⟨k,cap,cls,ws,sl⟩] [] (.int .i64 e) []:=by
 by_cases hl:(ws.length:Int) = cls
 ·obtain ⟨b,hb,q⟩:=kl ws 1 6000 (by omega)
  obtain ⟨e,he,p⟩:=cD b [sl] (by simp)
  refine ⟨e,fun h=>⟨hl.symm,hb (he h).1,(he h).2 _ (by simp)⟩,?_⟩
  refine opG func294 ntmps294 results294 fun w0 Im0 ρ0=>?_
  repeat' (first|refine' aj|(refine ab q ?_)|(refine aV [.bool b] [] p rfl (Nat.le_refl _) ?_ ?_ ?_;rotate_left;rotate_left;conv=>whnf))
  all_goals first|exact AvLe.rfl|exact absurd hl (by assumption)|exact aF (by repeat' (first|exact True.intro|rfl|refine And.intro ?_ ?_))
 ·obtain ⟨e,he,p⟩:=cD false [sl] (by simp)
  refine ⟨e,fun h=>absurd (he h).1 (by decide),?_⟩
  refine opG func294 ntmps294 results294 fun w0 Im0 ρ0=>?_
  repeat' (first|(refine aa (fun hb=>absurd hb hl) (fun hb=>?_);conv=>whnf)|refine' aj|(refine aV [.bool false] [] p rfl (Nat.le_refl _) ?_ ?_ ?_;rotate_left;rotate_left;conv=>whnf))
  all_goals first|exact AvLe.rfl|exact aF (by repeat' (first|exact True.intro|rfl|refine And.intro ?_ ?_))
theorem yv (k cap cls:Int) (hc:1 <= cls/\cls <= 6) (ws sl:List Int):∃ e:Int,(e = 0 -> ws = []/\1 <= sl.length/\sl.length <= 40/\∀ x ∈ sl,-1 <= x/\x <= cls - 1)/\CallSpec prog 304 [.agg [],Line.av ⟨k,cap,cls,ws,sl⟩] [] (.int .i64 e) []:=by
 by_cases h1:(1:Int) <= sl.length
 ·by_cases h2:(sl.length:Int) <= 40
  ·obtain ⟨b,hb,q⟩:=kl sl (-1) (cls - 1) (by omega)
   obtain ⟨e,he,p⟩:=cD b [ws] (by simp)
   refine ⟨e,fun h=>⟨(he h).2 _ (by simp),by omega,by omega,hb (he h).1⟩,?_⟩
   refine opG func304 ntmps304 results304 fun w0 Im0 ρ0=>?_
   repeat' (first|refine' aj|(refine ab q ?_)|(refine aV [.bool b] [] p rfl (Nat.le_refl _) ?_ ?_ ?_;rotate_left;rotate_left;conv=>whnf))
   all_goals first|exact AvLe.rfl|omega|(dsimp only;unfold inI64;omega)|exact absurd h1 (by assumption)|exact absurd h2 (by assumption)|exact aF (by repeat' (first|exact True.intro|rfl|refine And.intro ?_ ?_))
  ·obtain ⟨e,he,p⟩:=cD false [ws] (by simp)
   refine ⟨e,fun h=>absurd (he h).1 (by decide),?_⟩
   refine opG func304 ntmps304 results304 fun w0 Im0 ρ0=>?_
   repeat' (first|(refine aa (fun hb=>?_) (fun hb=>absurd h1 hb);conv=>whnf)|(refine aa (fun hb=>absurd hb h2) (fun hb=>?_);conv=>whnf)|refine' aj|(refine aV [.bool false] [] p rfl (Nat.le_refl _) ?_ ?_ ?_;rotate_left;rotate_left;conv=>whnf))
   all_goals first|exact AvLe.rfl|exact aF (by repeat' (first|exact True.intro|rfl|refine And.intro ?_ ?_))
 ·obtain ⟨e,he,p⟩:=cD false [ws] (by simp)
  refine ⟨e,fun h=>absurd (he h).1 (by decide),?_⟩
  refine opG func304 ntmps304 results304 fun w0 Im0 ρ0=>?_
  repeat' (first|(refine aa (fun hb=>absurd hb h1) (fun hb=>?_);conv=>whnf)|refine' aj|(refine aV [.bool false] [] p rfl (Nat.le_refl _) ?_ ?_ ?_;rotate_left;rotate_left;conv=>whnf))
  all_goals first|exact AvLe.rfl|exact aF (by repeat' (first|exact True.intro|rfl|refine And.intro ?_ ?_))
theorem kf5 {k:Int} {a b c d e:AV} (h:¬ (1 <= k/\k <= 5)):eh (.int .i64 k) [(.int .i64 1,a),(.int .i64 2,b),(.int .i64 3,c),(.int .i64 4,d),(.int .i64 5,e)] 0 = some none:=by
 simp only [eh,if_neg (show ¬ k = 1 by omega),if_neg (show ¬ k = 2 by omega),if_neg (show ¬ k = 3 by omega),if_neg (show ¬ k = 4 by omega),if_neg (show ¬ k = 5 by omega)]
theorem yw (k:Int) (h:¬ (1 <= k/\k <= 5)):CallSpec prog 203 [.int .i64 k] [] (.tup [.niface,.bool false]) []:=by
 refine opG func203 ntmps203 results203 fun w0 Im0 ρ0=>?_
 repeat' (first|refine' aj|(refine VLook.mk ⟨none,rfl,?_⟩;conv=>whnf)|(refine VLook.mk ⟨none,kf5 h,?_⟩;conv=>whnf))
 all_goals exact AvLe.rfl
theorem fA (l:Line) (t:Nat) (f:FuncId) (e:Int) (hc:1 <= l.cap/\l.cap <= 4000) (hs:1 <= l.classes/\l.classes <= 6) (hk:CallSpec prog 203 [.int .i64 l.kind] [] (.tup [.iface t (.agg []),.bool true]) [])
  (hm:∀ w,(method (prog.types.size + Made.depth) t (.agg #[]) (nmOf 0)).run prog w = .ok (f,.agg #[]) w) (hf:CallSpec prog f [.agg [],l.av] [] (.int .i64 e) []):CallSpec prog 140 [l.av] [] (.int .i64 e) []:=by
 refine opG func140 ntmps140 results140 fun w0 Im0 ρ0=>?_
 repeat' (first|refine' aj|(refine ab hk ?_)|(refine VInv.mk ⟨f,fun w=>Eq.trans (by kernel_rfl) (hm w),?_⟩;refine bK hf ?_;conv=>whnf))
 all_goals first|omega|exact AvLe.rfl
theorem fB (l:Line) (t:Nat) (hc:¬ ((1 <= l.cap/\l.cap <= 4000)/\1 <= l.classes/\l.classes <= 6)) (hk:CallSpec prog 203 [.int .i64 l.kind] [] (.tup [.iface t (.agg []),.bool true]) []):CallSpec prog 140 [l.av] [] (.int .i64 2) []:=by
 refine opG func140 ntmps140 results140 fun w0 Im0 ρ0=>?_
 repeat' (first|refine' aj|(refine ab hk ?_) | fail)
 all_goals first|exact AvLe.rfl|(exfalso;omega) | skip
theorem vI (l:Line):∃ e:Int,(e = 0 -> LineOk l)/\CallSpec prog 140 [l.av] [] (.int .i64 e) []:=by
 obtain ⟨k,cap,cls,ws,sl⟩:=l
 by_cases hk:1 <= k/\k <= 5
 ·by_cases hc:(1 <= cap/\cap <= 4000)/\1 <= cls/\cls <= 6
  ·rcases (show k = 1 \/ k = 2 \/ k = 3 \/ k = 4 \/ k = 5 by omega) with rfl|rfl|rfl|rfl|rfl
   ·obtain ⟨e,he,p⟩:=An 1 cap cls ws sl
    exact ⟨e,fun h=>⟨hc.1,hc.2,.inl ⟨.inl rfl,he h⟩⟩,fA _ 215 265 e hc.1 hc.2 hU iZ p⟩
   ·obtain ⟨e,he,p⟩:=yr 2 cap cls ws sl
    exact ⟨e,fun h=>⟨hc.1,hc.2,.inl ⟨.inr rfl,he h⟩⟩,fA _ 216 269 e hc.1 hc.2 hZ ja p⟩
   ·obtain ⟨e,he,p⟩:=yu 3 cap cls hc.2 ws sl
    exact ⟨e,fun h=>⟨hc.1,hc.2,.inr (.inl ⟨rfl,he h⟩)⟩,fA _ 217 279 e hc.1 hc.2 ia jb p⟩
   ·obtain ⟨e,he,p⟩:=ru 4 cap cls hc.2 ws sl
    exact ⟨e,fun h=>⟨hc.1,hc.2,.inr (.inr (.inl ⟨rfl,he h⟩))⟩,fA _ 218 294 e hc.1 hc.2 ic jc p⟩
   ·obtain ⟨e,he,p⟩:=yv 5 cap cls hc.2 ws sl
    exact ⟨e,fun h=>⟨hc.1,hc.2,.inr (.inr (.inr ⟨rfl,he h⟩))⟩,fA _ 219 304 e hc.1 hc.2 ig jd p⟩
  ·refine ⟨2,fun h=>absurd h (by decide),?_⟩
   rcases (show k = 1 \/ k = 2 \/ k = 3 \/ k = 4 \/ k = 5 by omega) with rfl|rfl|rfl|rfl|rfl
   ·exact fB _ 215 hc hU
   ·exact fB _ 216 hc hZ
   ·exact fB _ 217 hc ia
   ·exact fB _ 218 hc ic
   ·exact fB _ 219 hc ig
 ·refine ⟨9,fun h=>absurd h (by decide),?_⟩
  have p:=yw k hk
  refine opG func140 ntmps140 results140 fun w0 Im0 ρ0=>?_
  repeat' (first|refine' aj|(refine ab p ?_))
  all_goals exact AvLe.rfl
theorem rv {x:Int}:∀ {l:List Int} (i:Nat),x ∈ l -> ∃ j,eh (.int .i64 x) (l.map fun y=>(.int .i64 y,.bool true)) i = some (some (j,.bool true))
 | y :: l,i,h=>by
  by_cases e:x = y
  ·exact ⟨i,by simp only [List.map_cons,eh,if_pos e]⟩
  ·obtain ⟨j,hj⟩:=rv (l:=l) (i + 1) (by simpa [e] using h)
   exact ⟨j,by simp only [List.map_cons,eh,if_neg e];exact hj⟩
theorem kq {x:ByteArray}:∀ {l:List ByteArray} (i:Nat),x ∈ l -> ∃ j,eh (.str x) (l.map fun y=>(.str y,.bool true)) i = some (some (j,.bool true))
 | y :: l,i,h=>by
  by_cases e:x = y
  ·exact ⟨i,by simp only [List.map_cons,eh,if_pos e]⟩
  ·obtain ⟨j,hj⟩:=kq (l:=l) (i + 1) (by simpa [e] using h)
   exact ⟨j,by simp only [List.map_cons,eh,if_neg e];exact hj⟩
def HopP (n:Net) (f:Flow) (j:Nat):Prop:=(0 <= f.route.getD j 0/\f.route.getD j 0 < n.lines.length)/\f.route.getD j 0 ∉ f.route.take j/\0 <= f.class_/\f.class_ < (n.lines.getD (f.route.getD j 0).toNat default).classes
def nN (n:Net) (f:Flow):Prop:=(1 <= f.route.length/\f.route.length <= 4)/\∀ j,j < f.route.length -> HopP n f j
def yx (f:Flow):Prop:=(1 <= f.least/\f.least <= f.most/\f.most <= 1500)/\f.con.valid = true/\f.con.vals.getD 0 0 = 0/\f.con.vals.getD (f.con.vals.length - 1) 0 ≠ inf
theorem gO {c:Curve} (h:c.valid = true):1 <= c.vals.length/\c.vals.length <= 400:=by
 unfold Curve.valid at h
 split at h
 ·cases h
 ·omega
set_option maxHeartbeats 1000000 in
theorem yy (n:Net) (f:Flow):∃ e:Int,(e = 0 -> nN n f)/\CallSpec prog 141 [n.av,f.av] [] (.int .i64 e) []:=by
 by_cases h0:(f.route.length:Int) = 0
 ·refine ⟨5,fun h=>absurd h (by decide),?_⟩
  refine opG func141 ntmps141 results141 fun w0 Im0 ρ0=>?_
  repeat' (first|(refine aa (fun hb=>?_) (fun hb=>absurd h0 hb);conv=>whnf)|refine' aj | fail)
  all_goals exact AvLe.rfl
 by_cases h4:(f.route.length:Int) > 4
 ·refine ⟨3,fun h=>absurd h (by decide),?_⟩
  refine opG func141 ntmps141 results141 fun w0 Im0 ρ0=>?_
  repeat' (first|(refine aa (fun hb=>?_) (fun hb=>absurd h4 hb);conv=>whnf)|(refine aa (fun hb=>absurd hb h0) (fun hb=>?_);conv=>whnf)|refine' aj | fail)
  all_goals exact AvLe.rfl
 refine opE func141 ntmps141 results141 ?_
 repeat' (first|(refine aa (fun hb=>absurd hb h4) (fun hb=>?_);conv=>whnf)|(refine aa (fun hb=>absurd hb h0) (fun hb=>?_);conv=>whnf)|refine' ah | fail)
 refine ag (ι:={j:Nat // j <= f.route.length/\∀ i,i < j -> HopP n f i}) [2,3,5,18,19] [2,3] [] ⟨0,Nat.zero_le _,fun i hi=>absurd hi (Nat.not_lt_zero i)⟩ (fun ⟨j,_⟩=>f.route.length - j) (fun ⟨j,_⟩=>[(20,.int .i64 j)]) (fun ⟨j,_⟩=>[(16,some (.map (qp (f.route.take j))))]) ?_ ?_
 ·refine ⟨⟨rfl,rfl⟩,?_,?_⟩
  all_goals ((refine' subP)<;>first|exact kE|exact sq1)
 ·rintro ⟨j,hj,hI⟩
  conv=>whnf
  by_cases hjl:(j:Int) < f.route.length
  ·obtain ⟨x,ex⟩:∃ x,x = f.route.getD j 0:=⟨_,rfl⟩
   have ex2:f.route.getD (j:Int).toNat 0 = x:=by rw [ex];rfl
   by_cases hin:x ∈ f.route.take j
   ·obtain ⟨q,hq⟩:=rv 0 hin
    repeat' (first|(refine aa (fun hb=>?_) (fun hb=>absurd hjl hb);conv=>whnf)|refine' ah|(refine VLook.mk ⟨some (q,.bool true),(congrArg (fun z=>eh (.int .i64 z) _ 0) ex2).trans hq,?_⟩;conv=>whnf))
    all_goals try first|omega|(unfold inI64;omega)|(rw [ex2] at *;omega)|exact ae ⟨_,rfl,fun h=>absurd h (by decide)⟩
   ·have hk:=l4 (x:=x) 0 hin
    by_cases hp:HopP n f j
    ·have hp2:=hp
     unfold HopP at hp2
     rw [<- ex] at hp2
     obtain ⟨p1,p2,p3,p4⟩:=hp2
     repeat' (first|(refine aa (fun hb=>?_) (fun hb=>absurd hjl hb);conv=>whnf)|(refine' bx [] ⟨j + 1,by omega,fun i hi=>(Nat.lt_or_ge i j).elim (hI i) fun h9=>by have e9:i = j:=(by omega);subst e9;exact hp⟩<;>first|exact kE|(show ObLe (.map (qp (f.route.take j) ++ [(.int .i64 (f.route.getD j 0),.bool true)])) (.map (List.map _ (qp (f.route.take (j + 1)))));refine ObLe.of_eq ?_;rw [i4 (by omega)];simp [qp,reV];rfl)|exact sq1)|refine' ah|(refine VLook.mk ⟨none,(congrArg (fun z=>eh (.int .i64 z) _ 0) ex2).trans hk,?_⟩;conv=>whnf))
     all_goals try first|omega|(unfold inI64;omega)|(rw [ex2] at *;omega)|(exfalso;rw [ex2] at *;omega)
    ·have hF:(0 <= x/\x < n.lines.length) -> 0 <= f.class_ -> f.class_ < (n.lines.getD x.toNat default).classes -> False:=fun a b c=>hp (by unfold HopP;rw [<- ex];exact ⟨a,hin,b,c⟩)
     repeat' (first|(refine aa (fun hb=>?_) (fun hb=>absurd hjl hb);conv=>whnf)|refine' ah|(refine VLook.mk ⟨none,(congrArg (fun z=>eh (.int .i64 z) _ 0) ex2).trans hk,?_⟩;conv=>whnf))
     all_goals try first|omega|(unfold inI64;omega)|(rw [ex2] at *;omega)|exact ae ⟨_,rfl,fun h=>absurd h (by decide)⟩|(exfalso;rw [ex2] at *;exact hF (by omega) (by omega) (by omega))
  ·skip
   repeat' (first|(refine aa (fun hb=>absurd hb hjl) (fun hb=>?_);conv=>whnf)|refine' ah | fail)
   all_goals try exact ariA
   exact ae ⟨0,rfl,fun _=>⟨by omega,fun i hi=>hI i (by omega)⟩⟩
theorem vJ (c:Curve) (hv:c.valid = true):∃ b:Bool,(b = true -> c.vals.getD (c.vals.length - 1) 0 ≠ inf)/\CallSpec prog 205 [c.av] [] (.bool b) []:=by
 have hl:=gO hv
 by_cases hf:c.vals.getD (c.vals.length - 1) 0 = inf
 ·have e:((c.vals.length:Int) - 1).toNat = c.vals.length - 1:=by omega
  have p:CallSpec prog 167 [c.av] [] (.bool false) []:=by
   refine opG func167 ntmps167 results167 fun w0 Im0 ρ0=>?_
   repeat' (first|refine' aj | fail)
   all_goals first|omega|(unfold inI64;omega) | skip
   refine AvLe.of_eq ?_
   show AV.bool (!decide (c.vals.getD ((c.vals.length:Int) - 1).toNat 0 = 4611686018427387904)) = _
   rw [e,decide_eq_true (show c.vals.getD (c.vals.length - 1) 0 = 4611686018427387904 from hf)]
   rfl
  have h:=cx c
  rw [hv] at h
  refine ⟨false,fun e=>(by cases e),?_⟩
  refine opG func205 ntmps205 results205 fun w0 Im0 ρ0=>?_
  repeat' (first|refine' aj|(refine ab h ?_)|(refine ab p ?_))
  all_goals try dsimp only at hb
  all_goals try simp only [Int.toNat_natCast] at hb
  all_goals first|exact AvLe.rfl|exact fun _ _=>rfl|omega|(dsimp only;omega)|(dsimp only;unfold inI64;omega)|((repeat' (first|exact True.intro|refine And.intro ?_ ?_))<;>first|rfl|exact fun _ _=>rfl|(refine AvLe.int ?_;dsimp only;omega)|((conv=>whnf)<;>first|exact AvLe.rfl|exact ObLe.rfl|(refine AvLe.int ?_;dsimp only;omega)))
 ·exact ⟨true,fun _=>hf,l3 c hv hl hf⟩
theorem sT (f:Flow):∃ e:Int,(e = 0 -> yx f)/\CallSpec prog 142 [f.av] [] (.int .i64 e) []:=by
 have hv:=cx f.con
 cases hvb:f.con.valid with
 | false=>
  rw [hvb] at hv
  refine opE func142 ntmps142 results142 ?_
  repeat' (first|refine' ah|(refine ab hv ?_))
  all_goals exact ae ⟨_,rfl,fun h=>absurd h (by decide)⟩
 | true=>
  rw [hvb] at hv
  have hl:=gO hvb
  obtain ⟨b,hb0,hf⟩:=vJ f.con hvb
  rcases b with _ | _
  ·refine opE func142 ntmps142 results142 ?_
   repeat' (first|refine' ah|(refine ab hv ?_)|(refine ab hf ?_))
   all_goals first|omega|exact ae ⟨_,rfl,fun h=>absurd h (by decide)⟩
  ·refine opE func142 ntmps142 results142 ?_
   repeat' (first|refine' ah|(refine ab hv ?_)|(refine ab hf ?_))
   all_goals try first|omega|exact ae ⟨_,rfl,fun h=>absurd h (by decide)⟩
   exact ae ⟨0,rfl,fun _=>⟨by omega,hvb,hb,hb0 rfl⟩⟩
def po (l:List ByteArray) (j:Nat):Prop:=(dE (l.getD j .empty)/\oU (l.getD j .empty))/\l.getD j .empty ∉ l.take j
theorem sU (keys:List ByteArray) (nm:ByteArray):∃ e:Int,∃ ks,(e = 0 -> (dE nm/\oU nm)/\nm ∉ keys/\ks = keys ++ [nm])/\CallSpec prog 139 [.mref 37,.str nm] [(37,.map (cE keys))] (.int .i64 e) [(37,.map (cE ks))]:=by
 obtain ⟨b,hb0,p⟩:=um nm
 rcases b with _ | _
 ·refine ⟨4,keys,fun h=>absurd h (by decide),?_⟩
  refine aL a8 _ 13 [.tmp 4] func139 rfl (by kernel_rfl) ntmps139 (by rw [results139]) (by simp) ⟨rfl,rfl,rfl,aC bz,aC bz,rfl⟩ fun w0 Im0 ρ0=>?_
  repeat' (first|refine' dB|(refine ab p ?_))
  all_goals first|exact AvLe.rfl|rfl
 ·by_cases hin:nm ∈ keys
  ·refine ⟨60,keys,fun h=>absurd h (by decide),?_⟩
   obtain ⟨q,hq⟩:=kq 0 hin
   refine aL a8 _ 13 [.tmp 4] func139 rfl (by kernel_rfl) ntmps139 (by rw [results139]) (by simp) ⟨rfl,rfl,rfl,aC bz,aC bz,rfl⟩ fun w0 Im0 ρ0=>?_
   repeat' (first|refine' dB|(refine ab p ?_)|(refine VLook.mk ⟨some (q,.bool true),hq,?_⟩;conv=>whnf))
   all_goals first|exact AvLe.rfl|rfl
  ·exact ⟨0,keys ++ [nm],fun _=>⟨hb0 rfl,hin,rfl⟩,w9 keys nm (hb0 rfl).1 hin⟩
theorem sV (keys:List ByteArray) (nm:ByteArray):∃ e:Int,∃ ks,(e = 0 -> (dE nm/\oU nm)/\nm ∉ keys/\ks = keys ++ [nm])/\CallSpec prog 139 [.mref 62,.str nm] [(62,.map (cE keys))] (.int .i64 e) [(62,.map (cE ks))]:=by
 obtain ⟨b,hb0,p⟩:=um nm
 rcases b with _ | _
 ·refine ⟨4,keys,fun h=>absurd h (by decide),?_⟩
  refine aL a8 _ 13 [.tmp 4] func139 rfl (by kernel_rfl) ntmps139 (by rw [results139]) (by simp) ⟨rfl,rfl,rfl,aC bz,aC bz,rfl⟩ fun w0 Im0 ρ0=>?_
  repeat' (first|refine' dB|(refine ab p ?_))
  all_goals first|exact AvLe.rfl|rfl
 ·by_cases hin:nm ∈ keys
  ·refine ⟨60,keys,fun h=>absurd h (by decide),?_⟩
   obtain ⟨q,hq⟩:=kq 0 hin
   refine aL a8 _ 13 [.tmp 4] func139 rfl (by kernel_rfl) ntmps139 (by rw [results139]) (by simp) ⟨rfl,rfl,rfl,aC bz,aC bz,rfl⟩ fun w0 Im0 ρ0=>?_
   repeat' (first|refine' dB|(refine ab p ?_)|(refine VLook.mk ⟨some (q,.bool true),hq,?_⟩;conv=>whnf))
   all_goals first|exact AvLe.rfl|rfl
  ·exact ⟨0,keys ++ [nm],fun _=>⟨hb0 rfl,hin,rfl⟩,wA keys nm (hb0 rfl).1 hin⟩
theorem pq {α:Type} {l:List α} (d:α) (h:∀ j,j < l.length -> l.getD j d ∉ l.take j):l.Nodup:=by
 refine List.pairwise_iff_getElem.2 fun i j hi hj hij e=>?_
 have:=h j hj
 rw [List.getD_eq_getElem?_getD,List.getElem?_eq_getElem hj] at this
 refine this ?_
 show l[j] ∈ _
 rw [<- e]
 exact List.mem_iff_getElem.2 ⟨i,by simp;omega,by simp⟩
structure NetP (n:Net):Prop where
 len:1 <= n.lines.length/\n.lines.length <= 8
 flen:n.flows.length <= 10
 nlen:n.names.length = n.lines.length
 line:∀ j,j < n.lines.length -> po n.names j/\LineOk (n.lines.getD j default)
 flow:∀ j,j < n.flows.length -> po (n.flows.map Flow.name) j/\nN n (n.flows.getD j default)/\yx (n.flows.getD j default)
theorem cQ {α:Type} {l:List α} {x:α} (d:α) (h:x ∈ l):∃ j,j < l.length/\l.getD j d = x:=by
 obtain ⟨j,hj,e⟩:=List.mem_iff_getElem.1 h
 exact ⟨j,hj,by rw [List.getD_eq_getElem?_getD,List.getElem?_eq_getElem hj];exact e⟩
theorem NetP.ok {n:Net} (h:NetP n):NetOk n/\NamesOk n:=by
 have hfe:∀ j:Nat,j < n.flows.length -> (n.flows.map Flow.name).getD j .empty = (n.flows.getD j default).name:=fun j hj=>by simp [List.getD_eq_getElem?_getD,hj]
 refine ⟨⟨h.len,h.flen,h.nlen,fun x hx=>?_,pq .empty fun j hj=>(h.line j (by rw [<- h.nlen];exact hj)).1.2,fun l hl=>?_,fun f hf=>?_,pq .empty fun j hj=>(h.flow j (by simpa using hj)).1.2,fun f hf=>?_⟩,fun x hx=>?_,fun f hf=>?_⟩
 ·obtain ⟨j,hj,rfl⟩:=cQ .empty hx
  exact (h.line j (by rw [<- h.nlen];exact hj)).1.1.1
 ·obtain ⟨j,hj,rfl⟩:=cQ default hl
  exact (h.line j hj).2
 ·obtain ⟨j,hj,rfl⟩:=cQ default hf
  rw [<- hfe j hj]
  exact (h.flow j hj).1.1.1
 ·obtain ⟨j,hj,rfl⟩:=cQ default hf
  obtain ⟨_,⟨r1,r2⟩,t1,t2,t3,t4⟩:=h.flow j hj
  obtain ⟨f,ef⟩:∃ f,f = n.flows.getD j default:=⟨_,rfl⟩
  rw [<- ef] at r1 r2 t1 t2 t3 t4 ⊢
  refine ⟨r1,fun x hx=>?_,pq 0 fun i hi=>(r2 i hi).2.1,(r2 0 (by omega)).2.2.1,fun x hx=>?_,t1,t2,gO t2,t3,t4⟩
  ·obtain ⟨i,hi,rfl⟩:=cQ 0 hx
   exact (r2 i hi).1
  ·obtain ⟨i,hi,rfl⟩:=cQ 0 hx
   exact (r2 i hi).2.2.2
 ·obtain ⟨j,hj,rfl⟩:=cQ .empty hx
  exact (h.line j (by rw [<- h.nlen];exact hj)).1.1.2
 ·obtain ⟨j,hj,rfl⟩:=cQ default hf
  rw [<- hfe j hj]
  exact (h.flow j hj).1.1.2
set_option maxHeartbeats 2000000 in
theorem vK (n:Net):∃ e:Int,(e = 0 -> NetOk n/\NamesOk n)/\CallSpec prog 78 [n.av] [] (.int .i64 e) []:=by
 have hfe:∀ j:Nat,j < n.flows.length -> (n.flows.map Flow.name).getD j .empty = (n.flows.getD j default).name:=fun j hj=>by simp [List.getD_eq_getElem?_getD,hj]
 by_cases hlim:(1 <= n.lines.length/\n.lines.length <= 8)/\n.flows.length <= 10/\n.names.length = n.lines.length
 ·obtain ⟨hl1,hl2,hl3⟩:=hlim
  refine opE func78 ntmps78 results78 ?_
  repeat' (first|refine' ah | fail)
  all_goals try first|omega|(exfalso;omega)
  refine ag (ι:={j:Nat // j <= n.lines.length/\∀ i,i < j -> po n.names i/\LineOk (n.lines.getD i default)}) [1,3,39,40] [1] [] ⟨0,Nat.zero_le _,fun i hi=>absurd hi (Nat.not_lt_zero i)⟩ (fun ⟨j,_⟩=>n.lines.length - j) (fun ⟨j,_⟩=>[(41,.int .i64 j)]) (fun ⟨j,_⟩=>[(37,some (.map (cE (n.names.take j))))]) ?_ ?_
  ·refine ⟨⟨rfl,rfl⟩,?_,?_⟩
   all_goals ((refine' subP)<;>first|exact bz|exact sq1)
  ·rintro ⟨j,hj,hI⟩
   conv=>whnf
   by_cases hjl:(j:Int) < n.lines.length
   ·obtain ⟨e1,ks,h1,p1⟩:=sU (n.names.take j) (n.names.getD j .empty)
    obtain ⟨e2,h2,p2⟩:=vI (n.lines.getD j default)
    by_cases he1:e1 = 0
    ·subst he1
     obtain ⟨g1,g2,rfl⟩:=h1 rfl
     by_cases he2:e2 = 0
     ·subst he2
      repeat' (first|(refine aa (fun hb=>?_) (fun hb=>absurd hjl hb);conv=>whnf)|(refine' bx [] ⟨j + 1,by omega,fun i hi=>(Nat.lt_or_ge i j).elim (hI i) fun h9=>by have e9:i = j:=(by omega);subst e9;exact ⟨⟨g1,g2⟩,h2 rfl⟩⟩<;>first|exact bz|(show ObLe (.map (cE (n.names.take j ++ [n.names.getD j .empty]))) (.map (List.map _ (cE (n.names.take (j + 1)))));refine ObLe.of_eq ?_;rw [zp (show j < n.names.length by omega) .empty];simp [cE,reV];rfl)|exact sq1)|refine' ah|(refine ay p1 ?_)|(refine ab p2 ?_))
      all_goals try exact ariA
     ·skip
      repeat' (first|(refine au (fun hb=>?_) (fun hb=>absurd hb he2);conv=>whnf)|(refine aa (fun hb=>?_) (fun hb=>absurd hjl hb);conv=>whnf)|refine' ah|(refine ay p1 ?_)|(refine ab p2 ?_))
      all_goals try exact ariA
      exact ae ⟨e2,rfl,fun h=>absurd h he2⟩
    ·skip
     repeat' (first|(refine au (fun hb=>?_) (fun hb=>absurd hb he1);conv=>whnf)|(refine aa (fun hb=>?_) (fun hb=>absurd hjl hb);conv=>whnf)|refine' ah|(refine ay p1 ?_))
     all_goals try exact ariA
     exact ae ⟨e1,rfl,fun h=>absurd h he1⟩
   ·skip
    repeat' (first|(refine aa (fun hb=>absurd hb hjl) (fun hb=>?_);conv=>whnf)|refine' ah | fail)
    all_goals try exact ariA
    refine ⟨(ag (ι:={j:Nat // j <= n.flows.length/\∀ i,i < j -> po (n.flows.map Flow.name) i/\nN n (n.flows.getD i default)/\yx (n.flows.getD i default)}) [1,8,64,65] [1] [] ⟨0,Nat.zero_le _,fun i hi=>absurd hi (Nat.not_lt_zero i)⟩ (fun ⟨j,_⟩=>n.flows.length - j) (fun ⟨j,_⟩=>[(66,.int .i64 j)]) (fun ⟨j,_⟩=>[(62,some (.map (cE ((n.flows.map Flow.name).take j))))]) ?_ ?_).good⟩
    ·refine ⟨⟨rfl,rfl⟩,?_,?_⟩
     all_goals ((refine' subP)<;>first|exact bz|exact sq1)
    ·rintro ⟨i,hi,hF⟩
     conv=>whnf
     by_cases hil:(i:Int) < n.flows.length
     ·have hfi:=hfe i (by omega)
      obtain ⟨e1,ks,h1,p1⟩:=sV ((n.flows.map Flow.name).take i) (n.flows.getD i default).name
      obtain ⟨e2,h2,p2⟩:=yy n (n.flows.getD i default)
      obtain ⟨e3,h3,p3⟩:=sT (n.flows.getD i default)
      by_cases he1:e1 = 0
      ·subst he1
       obtain ⟨g1,g2,rfl⟩:=h1 rfl
       by_cases he2:e2 = 0
       ·subst he2
        by_cases he3:e3 = 0
        ·subst he3
         repeat' (first|(refine aa (fun hb=>?_) (fun hb=>absurd hil hb);conv=>whnf)|(refine' bx [] ⟨i + 1,by omega,fun k hk=>(Nat.lt_or_ge k i).elim (hF k) fun h9=>by have e9:k = i:=(by omega);subst e9;exact ⟨⟨by rw [hfi];exact g1,by rw [hfi];exact g2⟩,h2 rfl,h3 rfl⟩⟩<;>first|exact bz|(show ObLe (.map (cE ((n.flows.map Flow.name).take i ++ [(n.flows.getD i default).name]))) (.map (List.map _ (cE ((n.flows.map Flow.name).take (i + 1)))));refine ObLe.of_eq ?_;rw [zp (show i < (n.flows.map Flow.name).length by simp;omega) .empty,hfi];simp [cE,reV];rfl)|exact sq1)|refine' ah|(refine ay p1 ?_)|(refine ab p2 ?_)|(refine ab p3 ?_))
         all_goals try exact ariA
        ·skip
         repeat' (first|(refine au (fun hb=>?_) (fun hb=>absurd hb he3);conv=>whnf)|(refine aa (fun hb=>?_) (fun hb=>absurd hil hb);conv=>whnf)|refine' ah|(refine ay p1 ?_)|(refine ab p2 ?_)|(refine ab p3 ?_))
         all_goals try exact ariA
         exact ae ⟨e3,rfl,fun h=>absurd h he3⟩
       ·skip
        repeat' (first|(refine au (fun hb=>?_) (fun hb=>absurd hb he2);conv=>whnf)|(refine aa (fun hb=>?_) (fun hb=>absurd hil hb);conv=>whnf)|refine' ah|(refine ay p1 ?_)|(refine ab p2 ?_))
        all_goals try exact ariA
        exact ae ⟨e2,rfl,fun h=>absurd h he2⟩
      ·skip
       repeat' (first|(refine au (fun hb=>?_) (fun hb=>absurd hb he1);conv=>whnf)|(refine aa (fun hb=>?_) (fun hb=>absurd hil hb);conv=>whnf)|refine' ah|(refine ay p1 ?_))
       all_goals try exact ariA
       exact ae ⟨e1,rfl,fun h=>absurd h he1⟩
     ·skip
      repeat' (first|(refine aa (fun hb=>absurd hb hil) (fun hb=>?_);conv=>whnf)|refine' ah | fail)
      all_goals try exact ariA
      exact ae ⟨0,rfl,fun _=>NetP.ok ⟨hl1,hl2,hl3,fun i hi=>hI i (by omega),fun i hi=>hF i (by omega)⟩⟩
 ·refine opE func78 ntmps78 results78 ?_
  repeat' (first|refine' ah | fail)
  all_goals try first|exact ae ⟨_,rfl,fun h=>absurd h (by decide)⟩
  all_goals exfalso;omega
def rx (l:List Int):Nat -> Int
 | 0=>0
 | j + 1=>l.getD j 0
theorem ry {c:Curve} (hb:1 <= c.vals.length/\c.vals.length <= 400/\1 <= c.per/\c.per <= 120/\c.per <= c.vals.length/\0 <= c.inc/\c.inc <= 1073741824) {last:Int} (hr:runs 0 c.vals = some last)
  (h:(last = inf/\c.per = 1/\c.inc = 0) \/ (last ≠ inf/\last <= c.vals.getD ((c.vals.length:Int) - c.per).toNat 0 + c.inc)):c.valid = true:=by
 unfold Curve.valid
 rw [if_neg (by omega),hr]
 dsimp only
 rcases h with ⟨h1,h2,h3⟩ | ⟨h1,h2⟩
 ·rw [if_pos h1,h2,h3]
  rfl
 ·rw [if_neg h1]
  exact decide_eq_true h2
set_option maxHeartbeats 1000000 in
theorem rz (c:Curve):∃ b:Bool,(b = true -> c.valid = true)/\CallSpec prog 171 [c.av] [] (.bool b) []:=by
 by_cases hc:1 <= c.vals.length/\c.vals.length <= 400/\1 <= c.per/\c.per <= 120/\c.per <= c.vals.length/\0 <= c.inc/\c.inc <= 1073741824
 ·have ell:((c.vals.length:Int) - 1).toNat = c.vals.length - 1:=by omega
  refine opE func171 ntmps171 results171 ?_
  repeat' (first|refine' ah | fail)
  all_goals try first|omega|(unfold inI64;omega)|(exfalso;omega)|(exfalso;dsimp only at *;omega)
  refine ag (ι:={j:Nat // j <= c.vals.length/\0 <= rx c.vals j/\rx c.vals j <= inf/\runs 0 c.vals = runs (rx c.vals j) (c.vals.drop j)}) [1,3] [1] [] ⟨0,Nat.zero_le _,Int.le_refl 0,(show (0:Int) <= inf by decide),rfl⟩ (fun ⟨j,_⟩=>c.vals.length - j) (fun ⟨j,_⟩=>[(4,.int .i64 j)]) (fun _=>[]) ?_ ?_
  ·refine ⟨⟨rfl,rfl⟩,?_,?_⟩
   all_goals exact sq1
  ·rintro ⟨j,hj,hl0,hl1,hr⟩
   conv=>whnf
   by_cases hjl:(j:Int) < c.vals.length
   ·obtain ⟨v,ev⟩:∃ v,v = c.vals.getD j 0:=⟨_,rfl⟩
    have ev2:c.vals.getD (j:Int).toNat 0 = v:=by rw [ev];rfl
    obtain ⟨p,ep⟩:∃ p,p = rx c.vals j:=⟨_,rfl⟩
    have ep2:0 < j -> c.vals.getD ((j:Int) - 1).toNat 0 = p:=fun h=>by
     rw [ep,show ((j:Int) - 1).toNat = j - 1 by omega]
     cases j with
     | zero=>omega
     | succ j=>rfl
    have ep3:j = 0 -> p = 0:=fun h=>by rw [ep,h];rfl
    rw [<- ep] at hl0 hl1 hr
    by_cases hg:(v = inf \/ (0 <= v/\v <= 1073741824))/\p <= v
    ·have hs:=lw (show j < c.vals.length by omega) hr
     rw [<- ev,if_neg (by omega)] at hs
     unfold inf at hg
     repeat' (first|(refine aa (fun hb=>?_) (fun hb=>absurd hjl hb);conv=>whnf)|(exact aX [] ⟨j + 1,by omega,by show 0 <= c.vals.getD j 0;rw [<- ev];omega,by show c.vals.getD j 0 <= inf;rw [<- ev];unfold inf;omega,by show _ = runs (c.vals.getD j 0) _;rw [<- ev];exact hs⟩ ⟨⟨rfl,rfl⟩,sq1,sq1⟩ (by first|omega|(dsimp only;omega)))|refine' ah | fail)
     all_goals try exact ariA
     all_goals (try (have ep4:=ep2 (by omega);rw [ep4] at *));(try rw [ev2] at *);exfalso;omega
    ·unfold inf at hg
     repeat' (first|(refine aa (fun hb=>?_) (fun hb=>absurd hjl hb);conv=>whnf)|refine' ah | fail)
     all_goals try first|omega|(unfold inI64;omega)|exact ae ⟨false,rfl,fun h=>(by cases h)⟩
     all_goals (try (have ep4:=ep2 (by omega);rw [ep4] at *));(try rw [ev2] at *);exfalso;(try have ep5:=ep3 (by omega));omega
   ·have ej:j = c.vals.length:=by omega
    subst ej
    rw [List.drop_eq_nil_of_le (Nat.le_refl _)] at hr
    have hlast:rx c.vals c.vals.length = c.vals.getD (c.vals.length - 1) 0:=by
     cases hn:c.vals.length with
     | zero=>omega
     | succ k=>rfl
    rw [hlast] at hr hl0 hl1
    have hq:=(jO hr).2 _ (a7 (i:=((c.vals.length:Int) - c.per).toNat) (by omega))
    unfold inf at hq hl1
    rw [<- ell] at hr hl0 hl1
    repeat' (first|(refine aa (fun hb=>absurd hb hjl) (fun hb=>?_);conv=>whnf)|refine' ah | fail)
    all_goals try exact ariA
    ·exact ae ⟨_,rfl,fun h=>ry hc hr (.inl ⟨by assumption,by assumption,of_decide_eq_true h⟩)⟩
    ·exact ae ⟨false,rfl,fun h=>(by cases h)⟩
    ·exact ae ⟨_,rfl,fun h=>ry hc hr (.inr ⟨by assumption,of_decide_eq_true h⟩)⟩
 ·refine opE func171 ntmps171 results171 ?_
  repeat' (first|refine' ah | fail)
  all_goals try first|exact ae ⟨false,rfl,fun h=>(by cases h)⟩
  all_goals exfalso;omega
theorem pt (c:Curve) (hv:c.valid = true) {b:Bool} (p:CallSpec prog 171 [c.av] [] (.bool b) []) (hbt:b = true):∃ b:Bool,(b = true -> c.vals.getD (c.vals.length - 1) 0 ≠ inf)/\CallSpec prog 172 [c.av] [] (.bool b) []:=by
 subst hbt
 have hl:=gO hv
 have ell:((c.vals.length:Int) - 1).toNat = c.vals.length - 1:=by omega
 refine opE func172 ntmps172 results172 ?_
 repeat' (first|refine' ah|(refine ab p ?_))
 all_goals try first|omega|(unfold inI64;omega)|(exfalso;omega)|(exfalso;dsimp only at *;omega)
 exact ae ⟨_,rfl,fun h e=>by
  rw [ell,decide_eq_true (show c.vals.getD (c.vals.length - 1) 0 = 4611686018427387904 from e)] at h
  cases h⟩
theorem iP (l:List Int) (hl:l.length <= 100000) (lo hi:Int):∃ b:Bool,(b = true -> ∀ x ∈ l,lo <= x/\x <= hi)/\CallSpec prog 198 [ints l,.int .i64 lo,.int .i64 hi] [] (.bool b) []:=by
 refine opE func198 ntmps198 results198 ?_
 repeat' (first|refine' ah | fail)
 refine ag (ι:={i:Nat // i <= l.length/\∀ k,k < i -> lo <= l.getD k 0/\l.getD k 0 <= hi}) [0,1,2] [] [] ⟨0,by omega,fun i hi=>absurd hi (Nat.not_lt_zero i)⟩ (fun ⟨i,_⟩=>l.length - i) (fun ⟨i,_⟩=>[(7,.int .i64 i)]) (fun _=>[]) ?_ ?_
 ·refine ⟨⟨rfl,rfl⟩,?_,?_⟩
  all_goals exact sq1
 ·rintro ⟨i,hi1,hI⟩
  conv=>whnf
  obtain ⟨x,ex⟩:∃ x,x = l.getD i 0:=⟨_,rfl⟩
  have ex2:l.getD (i:Int).toNat 0 = x:=by rw [ex];rfl
  by_cases hx:lo <= x/\x <= hi
  ·skip
   repeat' (first|(exact aI [] ⟨i + 1,by omega,fun k hk=>(Nat.lt_or_ge k i).elim (hI k) fun h9=>by have e9:k = i:=(by omega);subst e9;rw [<- ex];exact hx⟩)|refine' ah | fail)
   all_goals try first|omega|(unfold inI64;omega)|(rw [ex2] at *;exfalso;omega)
   refine ae ⟨true,rfl,fun _ y hy=>?_⟩
   obtain ⟨k,hk,rfl⟩:=cQ 0 hy
   exact hI k (by omega)
  ·skip
   repeat' (first|refine' ah | fail)
   all_goals try first|omega|(unfold inI64;omega)|exact ae ⟨false,rfl,fun h=>(by cases h)⟩|(rw [ex2] at *;exfalso;omega)
   refine ae ⟨true,rfl,fun _ y hy=>?_⟩
   obtain ⟨k,hk,rfl⟩:=cQ 0 hy
   exact hI k (by omega)
theorem mC {l:List Int} (h:¬ 0 < (l.length:Int)):l = []:=List.eq_nil_of_length_eq_zero (by omega)
set_option maxHeartbeats 1000000 in
theorem r8 (l:Line):∃ e:Int,(e = 0 -> LineOk l)/\CallSpec prog 134 [l.av] [] (.int .i64 e) []:=by
 obtain ⟨k,cap,cls,ws,sl⟩:=l
 by_cases hk:1 <= k/\k <= 5
 ·by_cases hc:(1 <= cap/\cap <= 4000)/\1 <= cls/\cls <= 6
  ·rcases (show k = 1 \/ k = 2 \/ k = 3 \/ k = 4 \/ k = 5 by omega) with rfl|rfl|rfl|rfl|rfl
   ·refine opE func134 ntmps134 results134 ?_
    repeat' (first|refine' ah | fail)
    all_goals try first|exact ae ⟨_,rfl,fun h=>absurd h (by decide)⟩
    all_goals try first|omega|(exfalso;omega)|(exfalso;dsimp only at *;omega)
    exact ae ⟨0,rfl,fun _=>⟨hc.1,hc.2,.inl ⟨.inl rfl,mC (by assumption),mC (by assumption)⟩⟩⟩
   ·refine opE func134 ntmps134 results134 ?_
    repeat' (first|refine' ah | fail)
    all_goals try first|exact ae ⟨_,rfl,fun h=>absurd h (by decide)⟩
    all_goals try first|omega|(exfalso;omega)|(exfalso;dsimp only at *;omega)
    exact ae ⟨0,rfl,fun _=>⟨hc.1,hc.2,.inl ⟨.inr rfl,mC (by assumption),mC (by assumption)⟩⟩⟩
   ·by_cases hl:(ws.length:Int) = cls
    ·obtain ⟨b,hb0,p⟩:=iP ws (by omega) 1 20
     rcases b with _ | _
     ·refine opE func134 ntmps134 results134 ?_
      repeat' (first|refine' ah|(refine ab p ?_))
      all_goals try first|exact ae ⟨_,rfl,fun h=>absurd h (by decide)⟩
      all_goals try first|omega|(exfalso;omega)|(exfalso;dsimp only at *;omega)
     ·refine opE func134 ntmps134 results134 ?_
      repeat' (first|refine' ah|(refine ab p ?_))
      all_goals try first|exact ae ⟨_,rfl,fun h=>absurd h (by decide)⟩
      all_goals try first|omega|(exfalso;omega)|(exfalso;dsimp only at *;omega)|exact absurd hl (by assumption)
      exact ae ⟨0,rfl,fun _=>⟨hc.1,hc.2,.inr (.inl ⟨rfl,hl.symm,hb0 rfl,mC (by assumption)⟩)⟩⟩
    ·refine opE func134 ntmps134 results134 ?_
     repeat' (first|(refine au (fun hb=>?_) (fun hb=>absurd hb hl);conv=>whnf)|refine' ah | fail)
     all_goals try first|exact ae ⟨_,rfl,fun h=>absurd h (by decide)⟩
     all_goals try first|omega|(exfalso;omega)|(exfalso;dsimp only at *;omega)
   ·by_cases hl:(ws.length:Int) = cls
    ·obtain ⟨b,hb0,p⟩:=iP ws (by omega) 1 6000
     rcases b with _ | _
     ·refine opE func134 ntmps134 results134 ?_
      repeat' (first|refine' ah|(refine ab p ?_))
      all_goals try first|exact ae ⟨_,rfl,fun h=>absurd h (by decide)⟩
      all_goals try first|omega|(exfalso;omega)|(exfalso;dsimp only at *;omega)
     ·refine opE func134 ntmps134 results134 ?_
      repeat' (first|refine' ah|(refine ab p ?_))
      all_goals try first|exact ae ⟨_,rfl,fun h=>absurd h (by decide)⟩
      all_goals try first|omega|(exfalso;omega)|(exfalso;dsimp only at *;omega)|exact absurd hl (by assumption)
      exact ae ⟨0,rfl,fun _=>⟨hc.1,hc.2,.inr (.inr (.inl ⟨rfl,hl.symm,hb0 rfl,mC (by assumption)⟩))⟩⟩
    ·refine opE func134 ntmps134 results134 ?_
     repeat' (first|(refine au (fun hb=>?_) (fun hb=>absurd hb hl);conv=>whnf)|refine' ah | fail)
     all_goals try first|exact ae ⟨_,rfl,fun h=>absurd h (by decide)⟩
     all_goals try first|omega|(exfalso;omega)|(exfalso;dsimp only at *;omega)
   ·by_cases hs:1 <= sl.length/\sl.length <= 40
    ·obtain ⟨b,hb0,p⟩:=iP sl (by omega) (-1) (cls - 1)
     rcases b with _ | _
     ·refine opE func134 ntmps134 results134 ?_
      repeat' (first|refine' ah|(refine ab p ?_))
      all_goals try first|exact ae ⟨_,rfl,fun h=>absurd h (by decide)⟩
      all_goals try first|omega|(exfalso;omega)|(exfalso;dsimp only at *;omega)|(dsimp only;unfold inI64;omega)
     ·refine opE func134 ntmps134 results134 ?_
      repeat' (first|refine' ah|(refine ab p ?_))
      all_goals try first|exact ae ⟨_,rfl,fun h=>absurd h (by decide)⟩
      all_goals try first|omega|(exfalso;omega)|(exfalso;dsimp only at *;omega)|(dsimp only;unfold inI64;omega)
      exact ae ⟨0,rfl,fun _=>⟨hc.1,hc.2,.inr (.inr (.inr ⟨rfl,mC (by assumption),hs.1,hs.2,hb0 rfl⟩))⟩⟩
    ·refine opE func134 ntmps134 results134 ?_
     repeat' (first|refine' ah | fail)
     all_goals try first|exact ae ⟨_,rfl,fun h=>absurd h (by decide)⟩
     all_goals try first|omega|(exfalso;omega)|(exfalso;dsimp only at *;omega)
  ·refine opE func134 ntmps134 results134 ?_
   repeat' (first|refine' ah | fail)
   all_goals try first|exact ae ⟨_,rfl,fun h=>absurd h (by decide)⟩
   all_goals try first|omega|(exfalso;omega)|(exfalso;dsimp only at *;omega)
 ·refine opE func134 ntmps134 results134 ?_
  repeat' (first|refine' ah | fail)
  all_goals try first|exact ae ⟨_,rfl,fun h=>absurd h (by decide)⟩
  all_goals try first|omega|(exfalso;omega)|(exfalso;dsimp only at *;omega)
theorem A9 {a b:ByteArray} (h:¬ a = b):(a.toList == b.toList) = false:=by
 cases hb:(a.toList == b.toList) with
 | false=>rfl
 | true=>exact absurd (jh _ _ (eq_of_beq hb)) h
theorem pu {α:Type} {l:List α} (d:α) {j:Nat} {x:α} (hj:j <= l.length) (h:∀ i,i < j -> l.getD i d ≠ x):x ∉ l.take j:=fun hx=>by
 obtain ⟨i,hi,e⟩:=List.mem_iff_getElem.1 hx
 have h1:i < j:=by simp at hi;omega
 refine h i h1 ?_
 rw [List.getD_eq_getElem?_getD,List.getElem?_eq_getElem (by omega)]
 rw [List.getElem_take] at e
 exact e
set_option maxHeartbeats 4000000 in
theorem sW (n:Net) (i:Nat) (hi:i < n.flows.length) (hfl:n.flows.length <= 10):∃ e:Int,(e = 0 -> po (n.flows.map Flow.name) i/\nN n (n.flows.getD i default)/\yx (n.flows.getD i default))/\CallSpec prog 135 [n.av,.int .i64 i] [] (.int .i64 e) []:=by
 obtain ⟨f,ef⟩:∃ f,f = n.flows.getD i default:=⟨_,rfl⟩
 have hfe:∀ j:Nat,j < n.flows.length -> (n.flows.map Flow.name).getD j .empty = (n.flows.getD j default).name:=fun j hj=>by simp [List.getD_eq_getElem?_getD,hj]
 have hfi:=hfe i hi
 rw [<- ef] at hfi ⊢
 obtain ⟨bw,hw,pw⟩:=rq f.name
 obtain ⟨bv,hv,pv⟩:=rz f.con
 rcases bw with _ | _
 ·refine opE func135 ntmps135 results135 ?_
  refine gvE ?_;conv=>whnf
  refine gvE ?_;conv=>whnf
  refine Side.mk ⟨by omega,by omega⟩ ?_;conv=>whnf
  refine aq [1,2,5] [2] [] [] [(5,some (.box f.cells))] ⟨⟨rfl,rfl⟩,?_,?_⟩ ?_
  ·skip
   all_goals ((refine' subP)<;>first| rw [ef];exact ObLe.rfl|exact sq1)
  ·skip
   all_goals exact sq1
  conv=>whnf
  repeat' (first|refine' ah|(refine ab pw ?_))
  all_goals try exact ariA
  exact ae ⟨_,rfl,fun h=>absurd h (by decide)⟩
 ·refine opE func135 ntmps135 results135 ?_
  refine gvE ?_;conv=>whnf
  refine gvE ?_;conv=>whnf
  refine Side.mk ⟨by omega,by omega⟩ ?_;conv=>whnf
  refine aq [1,2,5] [2] [] [] [(5,some (.box f.cells))] ⟨⟨rfl,rfl⟩,?_,?_⟩ ?_
  ·skip
   all_goals ((refine' subP)<;>first| rw [ef];exact ObLe.rfl|exact sq1)
  ·skip
   all_goals exact sq1
  conv=>whnf
  repeat' (first|refine' ah|(refine ab pw ?_))
  all_goals try exact ariA
  refine ag (ι:={j:Nat // j <= i/\∀ k,k < j -> (n.flows.map Flow.name).getD k .empty ≠ f.name}) [1,2,5] [2,5] [] ⟨0,by omega,fun k hk=>absurd hk (Nat.not_lt_zero k)⟩ (fun ⟨j,_⟩=>i - j) (fun ⟨j,_⟩=>[(6,.int .i64 j)]) (fun _=>[]) ?_ ?_
  ·refine ⟨⟨rfl,rfl⟩,?_,?_⟩
   all_goals exact sq1
  ·rintro ⟨j,hj,hN⟩
   conv=>whnf
   by_cases hji:(j:Int) < i
   ·have hfj:=hfe j (by omega)
    by_cases he:(n.flows.getD (j:Int).toNat default).name = f.name
    ·have hz:((n.flows.getD (j:Int).toNat default).name.toList == f.name.toList) = true:=by rw [he];exact beq_self_eq_true _
     repeat' (first|(refine aN (fun hb=>?_) (fun hb=>absurd hb (fun e=>Bool.noConfusion (hz.symm.trans e)));conv=>whnf)|(refine aa (fun hb=>?_) (fun hb=>absurd hji hb);conv=>whnf)|refine' ah | fail)
     all_goals try exact ariA
     exact ae ⟨_,rfl,fun h=>absurd h (by decide)⟩
    ·have hz:=A9 he
     repeat' (first|(refine aN (fun hb=>absurd hb (fun e=>Bool.noConfusion (hz.symm.trans e))) (fun hb=>?_);conv=>whnf)|(refine aa (fun hb=>?_) (fun hb=>absurd hji hb);conv=>whnf)|(exact aI [] ⟨j + 1,by omega,fun k hk=>(Nat.lt_or_ge k j).elim (hN k) fun h9=>by have e9:k = j:=(by omega);subst e9;rw [hfj];exact he⟩)|refine' ah | fail)
     all_goals try exact ariA
   ·have hnm:po (n.flows.map Flow.name) i \/ False:=.inl ⟨by rw [hfi];exact hw rfl,by rw [hfi];exact pu .empty (by simp;omega) fun k hk=>hN k (by omega)⟩
    have hnm:=hnm.resolve_right id
    by_cases hr0:(f.route.length:Int) = 0
    ·skip
     repeat' (first|(refine aa (fun hb=>?_) (fun hb=>absurd hr0 hb);conv=>whnf)|(refine aa (fun hb=>absurd hb hji) (fun hb=>?_);conv=>whnf)|refine' ah | fail)
     all_goals try exact ariA
     exact ae ⟨_,rfl,fun h=>absurd h (by decide)⟩
    by_cases hr4:(f.route.length:Int) > 4
    ·skip
     repeat' (first|(refine aa (fun hb=>?_) (fun hb=>absurd hr4 hb);conv=>whnf)|(refine aa (fun hb=>absurd hb hr0) (fun hb=>?_);conv=>whnf)|(refine aa (fun hb=>absurd hb hji) (fun hb=>?_);conv=>whnf)|refine' ah | fail)
     all_goals try exact ariA
     exact ae ⟨_,rfl,fun h=>absurd h (by decide)⟩
    repeat' (first|(refine aa (fun hb=>absurd hb hr4) (fun hb=>?_);conv=>whnf)|(refine aa (fun hb=>absurd hb hr0) (fun hb=>?_);conv=>whnf)|(refine aa (fun hb=>absurd hb hji) (fun hb=>?_);conv=>whnf)|refine' ah | fail)
    all_goals try exact ariA
    refine ag (ι:={j:Nat // j <= f.route.length/\∀ k,k < j -> HopP n f k}) [2,5] [2,5] [] ⟨0,by omega,fun k hk=>absurd hk (Nat.not_lt_zero k)⟩ (fun ⟨j,_⟩=>f.route.length - j) (fun ⟨j,_⟩=>[(7,.int .i64 j)]) (fun _=>[]) ?_ ?_
    ·refine ⟨⟨rfl,rfl⟩,?_,?_⟩
     all_goals exact sq1
    ·rintro ⟨q,hq,hH⟩
     conv=>whnf
     by_cases hql:(q:Int) < f.route.length
     ·obtain ⟨x,ex⟩:∃ x,x = f.route.getD q 0:=⟨_,rfl⟩
      have ex2:f.route.getD (q:Int).toNat 0 = x:=by rw [ex];rfl
      by_cases hx:0 <= x/\x < n.lines.length
      ·skip
       repeat' (first|(refine aa (fun hb=>?_) (fun hb=>absurd hql hb);conv=>whnf)|refine' ah | fail)
       all_goals try first|omega|(unfold inI64;omega)|(rw [ex2] at *;exfalso;omega)
       refine ag (ι:={m:Nat // m <= q/\∀ k,k < m -> f.route.getD k 0 ≠ x}) [2,5,7,8] [2,5] [] ⟨0,by omega,fun k hk=>absurd hk (Nat.not_lt_zero k)⟩ (fun ⟨m,_⟩=>q - m) (fun ⟨m,_⟩=>[(9,.int .i64 m)]) (fun _=>[]) ?_ ?_
       ·refine ⟨⟨rfl,rfl⟩,?_,?_⟩
        all_goals exact sq1
       ·rintro ⟨m,hm,hM⟩
        conv=>whnf
        by_cases hmq:(m:Int) < q
        ·by_cases he:f.route.getD (m:Int).toNat 0 = f.route.getD (q:Int).toNat 0
         ·skip
          repeat' (first|(refine aa (fun hb=>?_) (fun hb=>absurd he hb);conv=>whnf)|(refine aa (fun hb=>?_) (fun hb=>absurd hmq hb);conv=>whnf)|refine' ah | fail)
          all_goals try exact ariA
          exact ae ⟨_,rfl,fun h=>absurd h (by decide)⟩
         ·skip
          repeat' (first|(refine aa (fun hb=>absurd hb he) (fun hb=>?_);conv=>whnf)|(refine aa (fun hb=>?_) (fun hb=>absurd hmq hb);conv=>whnf)|(exact aI [] ⟨m + 1,by omega,fun k hk=>(Nat.lt_or_ge k m).elim (hM k) fun h9=>by have e9:k = m:=(by omega);subst e9;rw [<- ex2];exact he⟩)|refine' ah | fail)
          all_goals try exact ariA
        ·have hnt:x ∉ f.route.take q:=pu 0 (by omega) fun k hk=>hM k (by omega)
         by_cases hcl:0 <= f.class_/\f.class_ < (n.lines.getD x.toNat default).classes
         ·skip
          repeat' (first|(refine aa (fun hb=>absurd hb hmq) (fun hb=>?_);conv=>whnf)|(exact aI [] ⟨q + 1,by omega,fun k hk=>(Nat.lt_or_ge k q).elim (hH k) fun h9=>by have e9:k = q:=(by omega);subst e9;unfold HopP;rw [<- ex];exact ⟨hx,hnt,hcl⟩⟩)|refine' ah | fail)
          all_goals try first|omega|(unfold inI64;omega)|(rw [ex2] at *;omega)|(rw [ex2] at *;exfalso;omega)
         ·skip
          repeat' (first|(refine aa (fun hb=>absurd hb hmq) (fun hb=>?_);conv=>whnf)|refine' ah | fail)
          all_goals try first|omega|(unfold inI64;omega)|exact ae ⟨_,rfl,fun h=>absurd h (by decide)⟩|(rw [ex2] at *;omega)|(rw [ex2] at *;exfalso;omega)
      ·skip
       repeat' (first|(refine aa (fun hb=>?_) (fun hb=>absurd hql hb);conv=>whnf)|refine' ah | fail)
       all_goals try first|omega|(unfold inI64;omega)|exact ae ⟨_,rfl,fun h=>absurd h (by decide)⟩|(rw [ex2] at *;exfalso;omega)
     ·have hrt:nN n f:=⟨by omega,fun k hk=>hH k (by omega)⟩
      rcases bv with _ | _
      ·skip
       repeat' (first|(refine aa (fun hb=>absurd hb hql) (fun hb=>?_);conv=>whnf)|refine' ah|(refine ab pv ?_))
       all_goals try first|omega|(unfold inI64;omega)|exact ae ⟨_,rfl,fun h=>absurd h (by decide)⟩
      ·have hvl:=gO (hv rfl)
       obtain ⟨bf,hf0,pf⟩:=pt f.con (hv rfl) pv rfl
       rcases bf with _ | _
       ·skip
        repeat' (first|(refine aa (fun hb=>absurd hb hql) (fun hb=>?_);conv=>whnf)|refine' ah|(refine ab pv ?_)|(refine ab pf ?_))
        all_goals try first|omega|(unfold inI64;omega)|exact ae ⟨_,rfl,fun h=>absurd h (by decide)⟩
       ·skip
        repeat' (first|(refine aa (fun hb=>absurd hb hql) (fun hb=>?_);conv=>whnf)|refine' ah|(refine ab pv ?_)|(refine ab pf ?_))
        all_goals try first|omega|(unfold inI64;omega)|exact ae ⟨_,rfl,fun h=>absurd h (by decide)⟩
        exact ae ⟨0,rfl,fun _=>⟨hnm,hrt,⟨by omega,hv rfl,hb,hf0 rfl⟩⟩⟩
set_option maxHeartbeats 2000000 in
theorem r9 (n:Net):∃ e:Int,(e = 0 -> NetOk n/\NamesOk n)/\CallSpec prog 75 [n.av] [] (.int .i64 e) []:=by
 by_cases hlim:(1 <= n.lines.length/\n.lines.length <= 8)/\n.flows.length <= 10/\n.names.length = n.lines.length
 ·obtain ⟨hl1,hl2,hl3⟩:=hlim
  refine opE func75 ntmps75 results75 ?_
  repeat' (first|refine' ah | fail)
  all_goals try exact ariB
  refine ag (ι:={i:Nat // i <= n.lines.length/\∀ k,k < i -> po n.names k/\LineOk (n.lines.getD k default)}) [1] [1] [] ⟨0,by omega,fun k hk=>absurd hk (Nat.not_lt_zero k)⟩ (fun ⟨i,_⟩=>n.lines.length - i) (fun ⟨i,_⟩=>[(3,.int .i64 i)]) (fun _=>[]) ?_ ?_
  ·refine ⟨⟨rfl,rfl⟩,?_,?_⟩
   all_goals exact sq1
  ·rintro ⟨i,hi,hI⟩
   conv=>whnf
   by_cases hlt:(i:Int) < n.lines.length
   ·obtain ⟨b,hb0,p1⟩:=rq (n.names.getD (i:Int).toNat .empty)
    obtain ⟨e2,h2,p2⟩:=r8 (n.lines.getD (i:Int).toNat default)
    rcases b with _ | _
    ·skip
     repeat' (first|(refine aa (fun hb=>?_) (fun hb=>absurd hlt hb);conv=>whnf)|refine' ah|(refine ab p1 ?_))
     all_goals try exact ariA
     exact ae ⟨_,rfl,fun h=>absurd h (by decide)⟩
    repeat' (first|(refine aa (fun hb=>?_) (fun hb=>absurd hlt hb);conv=>whnf)|refine' ah|(refine ab p1 ?_))
    all_goals try exact ariA
    refine ag (ι:={m:Nat // m <= i/\∀ k,k < m -> n.names.getD k .empty ≠ n.names.getD i .empty}) [1,3] [1] [] ⟨0,by omega,fun k hk=>absurd hk (Nat.not_lt_zero k)⟩ (fun ⟨m,_⟩=>i - m) (fun ⟨m,_⟩=>[(4,.int .i64 m)]) (fun _=>[]) ?_ ?_
    ·refine ⟨⟨rfl,rfl⟩,?_,?_⟩
     all_goals exact sq1
    ·rintro ⟨m,hm,hM⟩
     conv=>whnf
     by_cases hmi:(m:Int) < i
     ·by_cases he:n.names.getD (m:Int).toNat .empty = n.names.getD (i:Int).toNat .empty
      ·have hz:((n.names.getD (m:Int).toNat .empty).toList == (n.names.getD (i:Int).toNat .empty).toList) = true:=by rw [he];exact beq_self_eq_true _
       repeat' (first|(refine aN (fun hb=>?_) (fun hb=>absurd hb (fun e=>Bool.noConfusion (hz.symm.trans e)));conv=>whnf)|(refine aa (fun hb=>?_) (fun hb=>absurd hmi hb);conv=>whnf)|refine' ah | fail)
       all_goals try exact ariA
       exact ae ⟨_,rfl,fun h=>absurd h (by decide)⟩
      ·have hz:=A9 he
       repeat' (first|(refine aN (fun hb=>absurd hb (fun e=>Bool.noConfusion (hz.symm.trans e))) (fun hb=>?_);conv=>whnf)|(refine aa (fun hb=>?_) (fun hb=>absurd hmi hb);conv=>whnf)|(exact aI [] ⟨m + 1,by omega,fun k hk=>(Nat.lt_or_ge k m).elim (hM k) fun h9=>by have e9:k = m:=(by omega);subst e9;exact he⟩)|refine' ah | fail)
       all_goals try exact ariA
     ·have hnm:po n.names i:=⟨hb0 rfl,pu .empty (by omega) fun k hk=>hM k (by omega)⟩
      by_cases he2:e2 = 0
      ·subst he2
       repeat' (first|(refine aa (fun hb=>absurd hb hmi) (fun hb=>?_);conv=>whnf)|(exact aI [] ⟨i + 1,by omega,fun k hk=>(Nat.lt_or_ge k i).elim (hI k) fun h9=>by have e9:k = i:=(by omega);subst e9;exact ⟨hnm,h2 rfl⟩⟩)|refine' ah|(refine ab p2 ?_))
       all_goals try exact ariA
      ·skip
       repeat' (first|(refine au (fun hb=>?_) (fun hb=>absurd hb he2);conv=>whnf)|(refine aa (fun hb=>absurd hb hmi) (fun hb=>?_);conv=>whnf)|refine' ah|(refine ab p2 ?_))
       all_goals try exact ariA
       exact ae ⟨e2,rfl,fun h=>absurd h he2⟩
   ·skip
    repeat' (first|(refine aa (fun hb=>absurd hb hlt) (fun hb=>?_);conv=>whnf)|refine' ah | fail)
    all_goals try exact ariA
    refine ag (ι:={i:Nat // i <= n.flows.length/\∀ k,k < i -> po (n.flows.map Flow.name) k/\nN n (n.flows.getD k default)/\yx (n.flows.getD k default)}) [1] [1] [] ⟨0,by omega,fun k hk=>absurd hk (Nat.not_lt_zero k)⟩ (fun ⟨i,_⟩=>n.flows.length - i) (fun ⟨i,_⟩=>[(6,.int .i64 i)]) (fun _=>[]) ?_ ?_
    ·refine ⟨⟨rfl,rfl⟩,?_,?_⟩
     all_goals exact sq1
    ·rintro ⟨i,hi,hF⟩
     conv=>whnf
     by_cases hfi:(i:Int) < n.flows.length
     ·obtain ⟨e3,h3,p3⟩:=sW n i (by omega) hl2
      by_cases he3:e3 = 0
      ·subst he3
       repeat' (first|(refine aa (fun hb=>?_) (fun hb=>absurd hfi hb);conv=>whnf)|(exact aI [] ⟨i + 1,by omega,fun k hk=>(Nat.lt_or_ge k i).elim (hF k) fun h9=>by have e9:k = i:=(by omega);subst e9;exact h3 rfl⟩)|refine' ah|(refine ab p3 ?_))
       all_goals try exact ariA
      ·skip
       repeat' (first|(refine au (fun hb=>?_) (fun hb=>absurd hb he3);conv=>whnf)|(refine aa (fun hb=>?_) (fun hb=>absurd hfi hb);conv=>whnf)|refine' ah|(refine ab p3 ?_))
       all_goals try exact ariA
       exact ae ⟨e3,rfl,fun h=>absurd h he3⟩
     ·skip
      repeat' (first|(refine aa (fun hb=>absurd hb hfi) (fun hb=>?_);conv=>whnf)|refine' ah | fail)
      all_goals try exact ariA
      exact ae ⟨0,rfl,fun _=>NetP.ok ⟨hl1,hl2,hl3,fun i hi=>hI i (by omega),fun i hi=>hF i (by omega)⟩⟩
 ·refine opE func75 ntmps75 results75 ?_
  repeat' (first|refine' ah | fail)
  all_goals try first|exact ae ⟨_,rfl,fun h=>absurd h (by decide)⟩
  all_goals exfalso;omega
def FullN (n:Net):Prop:=NetOk n/\NamesOk n
def Full (n:Net) (d:List (List Int)):Prop:=FullN n/\ShapeOk n d
def RowP (n:Net) (d:List (List Int)) (i:Nat):Prop:=((d.getD i []).length:Int) = (n.lines.getD i default).classes/\∀ c,c < (d.getD i []).length -> -1 <= (d.getD i []).getD c 0/\(d.getD i []).getD c 0 <= 400
theorem jB {n:Net} {d:List (List Int)} (hl:d.length = n.lines.length) (h:∀ i,i < d.length -> RowP n d i):ShapeOk n d :=
 ⟨hl,fun i hi=>(h i (by omega)).1,fun i c hi hc=>(h i (by omega)).2 c hc⟩
set_option maxHeartbeats 2000000 in
theorem yz (n:Net) (d:List (List Int)):∃ b:Bool,(b = true -> Full n d)/\CallSpec prog 120 [n.av,aM d] [] (.bool b) []:=by
 obtain ⟨e,he,p0⟩:=vK n
 by_cases he0:e = 0
 ·subst he0
  have hfull:=he rfl
  have h:=hfull.1
  have hlen:=h.len
  have hcl:∀ j:Nat,j < n.lines.length -> 1 <= (n.lines.getD j default).classes/\(n.lines.getD j default).classes <= 6:=fun j hj=>(h.line _ (by simp [List.getD_eq_getElem?_getD,hj])).cls
  by_cases hdl:(d.length:Int) = n.lines.length
  ·refine opE func120 ntmps120 results120 ?_
   repeat' (first|(refine au (fun hb=>absurd hdl hb) (fun hb=>?_);conv=>whnf)|refine' ah|(refine ab p0 ?_))
   all_goals try exact ariB
   refine ag (ι:={j:Nat // j <= d.length/\∀ i,i < j -> RowP n d i}) [2,20,21] [2] [] ⟨0,Nat.zero_le _,fun i hi=>absurd hi (Nat.not_lt_zero i)⟩ (fun ⟨j,_⟩=>d.length - j) (fun ⟨j,_⟩=>[(22,.int .i64 j)]) (fun _=>[]) ?_ ?_
   ·refine ⟨⟨rfl,rfl⟩,?_,?_⟩
    all_goals exact sq1
   ·rintro ⟨j,hj,hI⟩
    conv=>whnf
    by_cases hjl:(j:Int) < d.length
    ·have h3 := hcl j (by omega)
     obtain ⟨D,eD⟩:∃ D,D = d.getD j []:=⟨_,rfl⟩
     have eDn:d.getD (j:Int).toNat [] = D:=by rw [eD];rfl
     by_cases hrow:((d.getD (j:Int).toNat []).length:Int) = (n.lines.getD (j:Int).toNat default).classes
     ·have hrow2:(D.length:Int) = (n.lines.getD j default).classes:=by rw [<- eDn];exact hrow
      repeat' (first|(refine au (fun hb=>absurd hrow hb) (fun hb=>?_);conv=>whnf)|(refine aa (fun hb=>?_) (fun hb=>absurd hjl hb);conv=>whnf)|refine' ah | fail)
      all_goals try first|omega|(unfold inI64;omega)|(rw [eDn];unfold inI64;omega)
      refine ag (ι:={c:Nat // c <= D.length/\∀ e:Nat,e < c -> -1 <= D.getD e 0/\D.getD e 0 <= 400}) [2,20,21,22] [2] [] ⟨0,Nat.zero_le _,fun e he=>absurd he (Nat.not_lt_zero e)⟩ (fun ⟨c,_⟩=>D.length - c) (fun ⟨c,_⟩=>[(36,ints D),(37,.int .i64 D.length),(38,.int .i64 c)]) (fun _=>[]) ?_ ?_
      ·refine ⟨⟨rfl,rfl⟩,?_,?_⟩
       all_goals ((refine' subP)<;>first|exact AvLe.int (by rw [eDn])|exact AvLe.of_eq (by rw [eD];rfl)|exact sq1)
      ·rintro ⟨c,hc,hJ⟩
       conv=>whnf
       by_cases hcl2:(c:Int) < D.length
       ·obtain ⟨x,ex⟩:∃ x,x = D.getD c 0:=⟨_,rfl⟩
        have ex2:D.getD (c:Int).toNat 0 = x:=by rw [ex];rfl
        by_cases hx:-1 <= x/\x <= 400
        ·skip
         repeat' (first|(refine aa (fun hb=>?_) (fun hb=>absurd hcl2 hb);conv=>whnf)|(exact aI [] ⟨c + 1,by omega,fun e he=>(Nat.lt_or_ge e c).elim (hJ e) fun h9=>by have e9:e = c:=(by omega);subst e9;rw [<- ex];exact hx⟩)|refine' ah | fail)
         all_goals try first|omega|(unfold inI64;omega)|(rw [ex2] at *;exfalso;omega)
        ·skip
         repeat' (first|(refine aa (fun hb=>?_) (fun hb=>absurd hcl2 hb);conv=>whnf)|refine' ah | fail)
         all_goals try first|omega|(unfold inI64;omega)|exact ae ⟨false,rfl,fun h9=>(by cases h9)⟩|(rw [ex2] at *;exfalso;omega)
       ·have ec:c = D.length:=by omega
        subst ec
        repeat' (first|(refine aa (fun hb=>absurd hb hcl2) (fun hb=>?_);conv=>whnf)|(exact aI [] ⟨j + 1,by omega,fun i hi=>(Nat.lt_or_ge i j).elim (hI i) fun h9=>by have e9:i = j:=(by omega);subst e9;unfold RowP;rw [<- eD];exact ⟨hrow2,hJ⟩⟩)|refine' ah | fail)
        all_goals try exact ariA
     ·skip
      repeat' (first|(refine au (fun hb=>?_) (fun hb=>absurd hb hrow);conv=>whnf)|(refine aa (fun hb=>?_) (fun hb=>absurd hjl hb);conv=>whnf)|refine' ah | fail)
      all_goals try first|omega|(unfold inI64;omega)|exact ae ⟨false,rfl,fun h9=>(by cases h9)⟩
    ·skip
     repeat' (first|(refine aa (fun hb=>absurd hb hjl) (fun hb=>?_);conv=>whnf)|refine' ah | fail)
     all_goals try exact ariA
     exact ae ⟨true,rfl,fun _=>⟨hfull,jB (by omega) fun i hi=>hI i (by omega)⟩⟩
  ·refine opE func120 ntmps120 results120 ?_
   repeat' (first|(refine au (fun hb=>?_) (fun hb=>absurd hb hdl);conv=>whnf)|refine' ah|(refine ab p0 ?_))
   all_goals try first|omega|exact ae ⟨false,rfl,fun h9=>(by cases h9)⟩
   all_goals exact absurd rfl (by assumption)
 ·refine opE func120 ntmps120 results120 ?_
  repeat' (first|(refine au (fun hb=>?_) (fun hb=>absurd hb he0);conv=>whnf)|refine' ah|(refine ab p0 ?_))
  all_goals try first|omega|exact ae ⟨false,rfl,fun h9=>(by cases h9)⟩
set_option maxHeartbeats 2000000 in
theorem vL (n:Net) (d:List (List Int)):∃ b:Bool,(b = true -> Full n d)/\CallSpec prog 98 [n.av,aM d] [] (.bool b) []:=by
 obtain ⟨e,he,p0⟩:=r9 n
 by_cases he0:e = 0
 ·subst he0
  have hfull:=he rfl
  have h:=hfull.1
  have hlen:=h.len
  have hcl:∀ j:Nat,j < n.lines.length -> 1 <= (n.lines.getD j default).classes/\(n.lines.getD j default).classes <= 6:=fun j hj=>(h.line _ (by simp [List.getD_eq_getElem?_getD,hj])).cls
  by_cases hdl:(d.length:Int) = n.lines.length
  ·refine opE func98 ntmps98 results98 ?_
   repeat' (first|(refine au (fun hb=>absurd hdl hb) (fun hb=>?_);conv=>whnf)|refine' ah|(refine ab p0 ?_))
   all_goals try exact ariB
   refine ag (ι:={j:Nat // j <= d.length/\∀ i,i < j -> RowP n d i}) [1,2] [2] [] ⟨0,Nat.zero_le _,fun i hi=>absurd hi (Nat.not_lt_zero i)⟩ (fun ⟨j,_⟩=>d.length - j) (fun ⟨j,_⟩=>[(5,.int .i64 j)]) (fun _=>[]) ?_ ?_
   ·refine ⟨⟨rfl,rfl⟩,?_,?_⟩
    all_goals exact sq1
   ·rintro ⟨j,hj,hI⟩
    conv=>whnf
    by_cases hjl:(j:Int) < d.length
    ·have h3 := hcl j (by omega)
     have er:(d.getD (j:Int).toNat []).length = (d.getD j []).length:=rfl
     by_cases hrow:((d.getD (j:Int).toNat []).length:Int) = (n.lines.getD (j:Int).toNat default).classes
     ·have hrow2:((d.getD j []).length:Int) = (n.lines.getD j default).classes:=hrow
      repeat' (first|(refine au (fun hb=>absurd hrow hb) (fun hb=>?_);conv=>whnf)|(refine aa (fun hb=>?_) (fun hb=>absurd hjl hb);conv=>whnf)|refine' ah | fail)
      all_goals try exact ariA
      refine ag (ι:={c:Nat // c <= (d.getD j []).length/\∀ e:Nat,e < c -> -1 <= (d.getD j []).getD e 0/\(d.getD j []).getD e 0 <= 400}) [1,2,5] [2] [] ⟨0,Nat.zero_le _,fun e he=>absurd he (Nat.not_lt_zero e)⟩ (fun ⟨c,_⟩=>(d.getD j []).length - c) (fun ⟨c,_⟩=>[(6,.int .i64 c)]) (fun _=>[]) ?_ ?_
      ·refine ⟨⟨rfl,rfl⟩,?_,?_⟩
       all_goals exact sq1
      ·rintro ⟨c,hc,hJ⟩
       conv=>whnf
       by_cases hcl2:(c:Int) < (d.getD (j:Int).toNat []).length
       ·obtain ⟨x,ex⟩:∃ x,x = (d.getD j []).getD c 0:=⟨_,rfl⟩
        have ex2:(d.getD (j:Int).toNat []).getD (c:Int).toNat 0 = x:=by rw [ex];rfl
        by_cases hx:-1 <= x/\x <= 400
        ·skip
         repeat' (first|(refine aa (fun hb=>?_) (fun hb=>absurd hcl2 hb);conv=>whnf)|(exact aI [] ⟨c + 1,by omega,fun e he=>(Nat.lt_or_ge e c).elim (hJ e) fun h9=>by have e9:e = c:=(by omega);subst e9;rw [<- ex];exact hx⟩)|refine' ah | fail)
         all_goals try first|omega|(unfold inI64;omega)|(rw [ex2] at *;exfalso;omega)
        ·skip
         repeat' (first|(refine aa (fun hb=>?_) (fun hb=>absurd hcl2 hb);conv=>whnf)|refine' ah | fail)
         all_goals try first|omega|(unfold inI64;omega)|exact ae ⟨false,rfl,fun h9=>(by cases h9)⟩|(rw [ex2] at *;exfalso;omega)
       ·skip
        repeat' (first|(refine aa (fun hb=>absurd hb hcl2) (fun hb=>?_);conv=>whnf)|(exact aI [] ⟨j + 1,by omega,fun i hi=>(Nat.lt_or_ge i j).elim (hI i) fun h9=>by have e9:i = j:=(by omega);subst e9;exact ⟨hrow2,fun e he=>hJ e (by omega)⟩⟩)|refine' ah | fail)
        all_goals try exact ariA
     ·skip
      repeat' (first|(refine au (fun hb=>?_) (fun hb=>absurd hb hrow);conv=>whnf)|(refine aa (fun hb=>?_) (fun hb=>absurd hjl hb);conv=>whnf)|refine' ah | fail)
      all_goals try first|omega|(unfold inI64;omega)|exact ae ⟨false,rfl,fun h9=>(by cases h9)⟩
    ·skip
     repeat' (first|(refine aa (fun hb=>absurd hb hjl) (fun hb=>?_);conv=>whnf)|refine' ah | fail)
     all_goals try exact ariA
     exact ae ⟨true,rfl,fun _=>⟨hfull,jB (by omega) fun i hi=>hI i (by omega)⟩⟩
  ·refine opE func98 ntmps98 results98 ?_
   repeat' (first|(refine au (fun hb=>?_) (fun hb=>absurd hb hdl);conv=>whnf)|refine' ah|(refine ab p0 ?_))
   all_goals try first|omega|exact ae ⟨false,rfl,fun h9=>(by cases h9)⟩
   all_goals exact absurd rfl (by assumption)
 ·refine opE func98 ntmps98 results98 ?_
  repeat' (first|(refine au (fun hb=>?_) (fun hb=>absurd hb he0);conv=>whnf)|refine' ah|(refine ab p0 ?_))
  all_goals try first|omega|exact ae ⟨false,rfl,fun h9=>(by cases h9)⟩
theorem uq {n:Net} {d:List (List Int)} (h:¬ Full n d):CallSpec prog 120 [n.av,aM d] [] (.bool false) []:=by
 obtain ⟨b,hb,p⟩:=yz n d
 cases b with
 | false=>exact p
 | true=>exact absurd (hb rfl) h
theorem y5 {n:Net} {d:List (List Int)} (h:¬ Full n d):CallSpec prog 98 [n.av,aM d] [] (.bool false) []:=by
 obtain ⟨b,hb,p⟩:=vL n d
 cases b with
 | false=>exact p
 | true=>exact absurd (hb rfl) h
theorem ba {α:Type} (enc:α -> List AV) (d:α) (l:List α) {k:Nat} (hk:k < l.length) (x:α) {t:List AV} (ht:t = enc x) (i:Nat):(bif Nat.beq i k then t else enc (l.getD i d)) = enc ((l.set k x).getD i d):=by
 by_cases e:i = k
 ·subst e
  rw [Nat.beq_refl,ht]
  simp [List.getD_eq_getElem?_getD,hk]
 ·rw [show Nat.beq i k = false by cases hb:Nat.beq i k with | false=>rfl | true=>exact absurd (Nat.eq_of_beq_eq_true hb) e]
  simp only [cond_false,List.getD_eq_getElem?_getD,List.getElem?_set_ne (show k ≠ i from fun h=>e h.symm)]
theorem n_at (s:Rd) (hs:s.ok) (k:Int) (h0:0 < k) (h1:k <= 4000000):∃ (x:Int) (s':Rd),s.n k = (x,s')/\(0 <= x/\x < k)/\s'.ok/\CallSpec prog 30 [.lptr 900 0,.int .i64 k] [(900,s.ob)] (.int .i64 x) [(900,s'.ob)]:=by
 obtain ⟨x,s',e⟩:∃ x s',s.n k = (x,s'):=⟨_,_,rfl⟩
 have p:=iz s hs k (by unfold inI64;omega)
 have o:=s.n_ok k hs
 have m:=mod_lt (x:=s.raw.1) h0
 have e2:mod s.raw.1 k = x:=congrArg Prod.fst e
 rw [e] at p o
 rw [e2] at m
 exact ⟨x,s',e,m,o,p⟩
theorem eZ (s:Rd) (hs:s.ok) (l:List Int) (h0:0 < l.length) (h1:l.length <= 2000):∃ (x:Int) (s':Rd),x ∈ l/\s'.ok/\CallSpec prog 85 [.lptr 900 0,ints l] [(900,s.ob)] (.int .i64 x) [(900,s'.ob)]:=by
 have p:=lz s hs l h0 h1
 have o:=s.n_ok l.length hs
 have m:=mod_lt (x:=s.raw.1) (n:=l.length) (by omega)
 exact ⟨_,_,a7 (by show (mod s.raw.1 l.length).toNat < _;omega),o,p⟩
theorem kS (s:Rd) (hs:s.ok) (lo hi:Int) (h1:-1000000 <= lo) (h2:lo <= hi) (h3:hi <= 1000000):∃ (x:Int) (s':Rd),(lo <= x/\x <= hi)/\s'.ok/\CallSpec prog 18 [.lptr 900 0,.int .i64 lo,.int .i64 hi] [(900,s.ob)] (.int .i64 x) [(900,s'.ob)]:=by
 have p:=cJ s hs lo hi h1 h2 h3
 have o:=s.n_ok (hi - lo + 1) hs
 have m:=mod_lt (x:=s.raw.1) (n:=hi - lo + 1) (by omega)
 exact ⟨_,_,⟨by show lo <= lo + mod s.raw.1 (hi - lo + 1);omega,by show lo + mod s.raw.1 (hi - lo + 1) <= hi;omega⟩,o,p⟩
theorem aO {pid:List Nat} {nt:Nat} {rs:List ResultVar} {α:Type} {g:α -> AV} {outs:α -> List (Nat × LObj)} {Q:α -> Prop} {B:St} (h:dm T B rs fun vs=>∃ x,AvLe (dn vs) (g x)/\fi B.o (outs x)/\Q x):FinX T pid nt rs g outs Q B:=by
 obtain ⟨vs,⟨x,h1,h4,h2⟩,h3⟩:=fp rs h
 exact ⟨x,h2,fun w0 Im0 ρ0=>⟨B,Ghost.rfl,h3 _ h1,h4⟩⟩
set_option maxHeartbeats 4000000 in
theorem Bq (s:Rd) (hs:s.ok) (c:Curve) (hl:1 <= c.vals.length/\c.vals.length <= 400) (hv:∀ i,i < c.vals.length -> 0 <= c.vals.getD i 0/\c.vals.getD i 0 <= 4611686018427387904) :
  ∃ x:Curve × Rd,x.2.ok/\CallSpec prog 87 [.lptr 900 0,c.av] [(900,s.ob)] x.1.av [(900,x.2.ob)]:=by
 obtain ⟨k,s1,_,hk,o1,p1⟩:=n_at s hs c.vals.length (by omega) (by omega)
 obtain ⟨m,s2,_,hm,o2,p2⟩:=n_at s1 o1 6 (by omega) (by omega)
 have hK:k.toNat < c.vals.length:=by omega
 have hvk:=hv k.toNat hK
 rcases (show m = 0 \/ m = 1 \/ m = 2 \/ m = 3 \/ m = 4 \/ m = 5 by omega) with rfl|rfl|rfl|rfl|rfl|rfl
 ·obtain ⟨v,s3,_,o3,p3⟩:=eZ s2 o2 [-1,0,1073741824,1073741825,4611686018427387904,4611686018427387905] (by simp) (by simp)
  refine ao a8 _ 96 [.cell 4 39] func87 rfl (by kernel_rfl) ntmps87 (by rw [results87]) (by simp) ⟨rfl,rfl,aC rfl⟩ (fun x=>⟨rfl,aC rfl,rfl⟩) ?_
  repeat' (first|(refine aq [4] [900,4] [] [(5,.lptr 805 0)] [(805,some (.box [.osl 810 (c.vals.set k.toNat v).length,.int .i64 c.per,.int .i64 c.inc])),(810,some (.arr (c.vals.set k.toNat v).length 1 (fun i=>[.int .i64 ((c.vals.set k.toNat v).getD i 0)]) 3))] ⟨⟨rfl,rfl⟩,?_,?_⟩ ?_;(solve|((refine' subP)<;>first|exact ObLe.box (.cons (AvLe.of_eq (congrArg (AV.osl 810) (by simp))) (.cons AvLe.rfl (.cons AvLe.rfl .nil)))|exact ObLe.arr (by simp) fun i hi=>(ba encI 0 c.vals hK _ rfl i).trans (reL_id _).symm|exact sq1));(solve|((refine' subP)<;>first|exact ObLe.box (.cons (AvLe.of_eq (congrArg (AV.osl 810) (by simp))) (.cons AvLe.rfl (.cons AvLe.rfl .nil)))|exact ObLe.arr (by simp) fun i hi=>(ba encI 0 c.vals hK _ rfl i).trans (reL_id _).symm|exact sq1));(conv=>whnf);(refine az 810 rfl rfl (fun _ _=>rfl) ?_ ?_ ?_;(solve | try refine' frzZ);(solve | try refine' frzZ));(conv=>whnf))|(refine aq [0,4] [900,4] [(810,10),(805,5)] [(5,.lptr 805 0)] [(805,some (.box [.osl 810 c.vals.length,.int .i64 c.per,.int .i64 c.inc])),(810,some (.arr c.vals.length 1 (fun i=>[.int .i64 (c.vals.getD i 0)]) 3))] ⟨⟨rfl,rfl⟩,?_,?_⟩ ?_;(solve|((refine' subP)<;>first|exact ObLe.arr (by simp) (fun i hi=>rfl)|exact ObLe.box (.cons (AvLe.of_eq (congrArg (AV.osl 10) (by simp))) (.cons AvLe.rfl (.cons AvLe.rfl .nil)))|exact sq1));(solve|((refine' subP)<;>first|exact ObLe.arr (by simp) (fun i hi=>rfl)|exact ObLe.box (.cons (AvLe.of_eq (congrArg (AV.osl 10) (by simp))) (.cons AvLe.rfl (.cons AvLe.rfl .nil)))|exact sq1));conv=>whnf)|refine' ah|(refine ay p1 ?_)|(refine ay p2 ?_)|(refine bg [.lptr 900 0] [] p3 rfl rfl rfl (Nat.le_refl _) ?_ ?_ ?_;rotate_left;rotate_left;conv=>whnf))
  all_goals try first|omega|(exfalso;omega)|(unfold inI64;omega)|exact aF (by repeat' (first|exact True.intro|rfl|refine And.intro ?_ ?_))|exact ⟨by omega,bD (by omega) (fun _ _=>rfl)⟩|exact bD (by omega) (fun _ _=>rfl)|exact ⟨Nat.zero_le _,bD (by omega) (fun _ _=>rfl)⟩
  exact aJ ⟨(⟨c.vals.set k.toNat v,c.per,c.inc⟩,s3),rfl,⟨rfl,trivial⟩,o3⟩
 ·obtain ⟨v,s3,_,o3,p3⟩:=eZ s2 o2 [-1,0,1,c.vals.length,c.vals.length + 1,121] (by simp) (by simp)
  refine ao a8 _ 96 [.cell 4 39] func87 rfl (by kernel_rfl) ntmps87 (by rw [results87]) (by simp) ⟨rfl,rfl,aC rfl⟩ (fun x=>⟨rfl,aC rfl,rfl⟩) ?_
  repeat' (first|(refine aq [4] [900,4] [] [(5,.lptr 805 0)] [(805,some (.box [.osl 810 c.vals.length,.int .i64 v,.int .i64 c.inc])),(810,some (.arr c.vals.length 1 (fun i=>[.int .i64 (c.vals.getD i 0)]) 3))] ⟨⟨rfl,rfl⟩,?_,?_⟩ ?_;(solve|((refine' subP)<;>first|exact ObLe.box (.cons (AvLe.of_eq (congrArg (AV.osl 810) (by simp))) (.cons AvLe.rfl (.cons AvLe.rfl .nil)))|exact sq1));(solve|((refine' subP)<;>first|exact ObLe.box (.cons (AvLe.of_eq (congrArg (AV.osl 810) (by simp))) (.cons AvLe.rfl (.cons AvLe.rfl .nil)))|exact sq1));(conv=>whnf);(refine az 810 rfl rfl (fun _ _=>rfl) ?_ ?_ ?_;(solve | try refine' frzZ);(solve | try refine' frzZ));(conv=>whnf))|(refine aq [0,4] [900,4] [(810,10),(805,5)] [(5,.lptr 805 0)] [(805,some (.box [.osl 810 c.vals.length,.int .i64 c.per,.int .i64 c.inc])),(810,some (.arr c.vals.length 1 (fun i=>[.int .i64 (c.vals.getD i 0)]) 3))] ⟨⟨rfl,rfl⟩,?_,?_⟩ ?_;(solve|((refine' subP)<;>first|exact ObLe.arr (by simp) (fun i hi=>rfl)|exact ObLe.box (.cons (AvLe.of_eq (congrArg (AV.osl 10) (by simp))) (.cons AvLe.rfl (.cons AvLe.rfl .nil)))|exact sq1));(solve|((refine' subP)<;>first|exact ObLe.arr (by simp) (fun i hi=>rfl)|exact ObLe.box (.cons (AvLe.of_eq (congrArg (AV.osl 10) (by simp))) (.cons AvLe.rfl (.cons AvLe.rfl .nil)))|exact sq1));conv=>whnf)|refine' ah|(refine ay p1 ?_)|(refine ay p2 ?_)|(refine bg [.lptr 900 0] [] p3 rfl rfl rfl (Nat.le_refl _) ?_ ?_ ?_;rotate_left;rotate_left;conv=>whnf))
  all_goals try first|omega|(exfalso;omega)|(unfold inI64;omega)|exact aF (by repeat' (first|exact True.intro|rfl|refine And.intro ?_ ?_))|exact ⟨by omega,bD (by omega) (fun _ _=>rfl)⟩|exact bD (by omega) (fun _ _=>rfl)|exact ⟨Nat.zero_le _,bD (by omega) (fun _ _=>rfl)⟩
  exact aJ ⟨(⟨c.vals,v,c.inc⟩,s3),rfl,⟨rfl,trivial⟩,o3⟩
 ·obtain ⟨v,s3,_,o3,p3⟩:=eZ s2 o2 [-1,0,1073741824,1073741825] (by simp) (by simp)
  refine ao a8 _ 96 [.cell 4 39] func87 rfl (by kernel_rfl) ntmps87 (by rw [results87]) (by simp) ⟨rfl,rfl,aC rfl⟩ (fun x=>⟨rfl,aC rfl,rfl⟩) ?_
  repeat' (first|(refine aq [4] [900,4] [] [(5,.lptr 805 0)] [(805,some (.box [.osl 810 c.vals.length,.int .i64 c.per,.int .i64 v])),(810,some (.arr c.vals.length 1 (fun i=>[.int .i64 (c.vals.getD i 0)]) 3))] ⟨⟨rfl,rfl⟩,?_,?_⟩ ?_;(solve|((refine' subP)<;>first|exact ObLe.box (.cons (AvLe.of_eq (congrArg (AV.osl 810) (by simp))) (.cons AvLe.rfl (.cons AvLe.rfl .nil)))|exact sq1));(solve|((refine' subP)<;>first|exact ObLe.box (.cons (AvLe.of_eq (congrArg (AV.osl 810) (by simp))) (.cons AvLe.rfl (.cons AvLe.rfl .nil)))|exact sq1));(conv=>whnf);(refine az 810 rfl rfl (fun _ _=>rfl) ?_ ?_ ?_;(solve | try refine' frzZ);(solve | try refine' frzZ));(conv=>whnf))|(refine aq [0,4] [900,4] [(810,10),(805,5)] [(5,.lptr 805 0)] [(805,some (.box [.osl 810 c.vals.length,.int .i64 c.per,.int .i64 c.inc])),(810,some (.arr c.vals.length 1 (fun i=>[.int .i64 (c.vals.getD i 0)]) 3))] ⟨⟨rfl,rfl⟩,?_,?_⟩ ?_;(solve|((refine' subP)<;>first|exact ObLe.arr (by simp) (fun i hi=>rfl)|exact ObLe.box (.cons (AvLe.of_eq (congrArg (AV.osl 10) (by simp))) (.cons AvLe.rfl (.cons AvLe.rfl .nil)))|exact sq1));(solve|((refine' subP)<;>first|exact ObLe.arr (by simp) (fun i hi=>rfl)|exact ObLe.box (.cons (AvLe.of_eq (congrArg (AV.osl 10) (by simp))) (.cons AvLe.rfl (.cons AvLe.rfl .nil)))|exact sq1));conv=>whnf)|refine' ah|(refine ay p1 ?_)|(refine ay p2 ?_)|(refine bg [.lptr 900 0] [] p3 rfl rfl rfl (Nat.le_refl _) ?_ ?_ ?_;rotate_left;rotate_left;conv=>whnf))
  all_goals try first|omega|(exfalso;omega)|(unfold inI64;omega)|exact aF (by repeat' (first|exact True.intro|rfl|refine And.intro ?_ ?_))|exact ⟨by omega,bD (by omega) (fun _ _=>rfl)⟩|exact bD (by omega) (fun _ _=>rfl)|exact ⟨Nat.zero_le _,bD (by omega) (fun _ _=>rfl)⟩
  exact aJ ⟨(⟨c.vals,c.per,v⟩,s3),rfl,⟨rfl,trivial⟩,o3⟩
 ·have hN:k.toNat = (c.vals.take k.toNat).length:=by simp;omega
  refine ao a8 _ 96 [.cell 4 39] func87 rfl (by kernel_rfl) ntmps87 (by rw [results87]) (by simp) ⟨rfl,rfl,aC rfl⟩ (fun x=>⟨rfl,aC rfl,rfl⟩) ?_
  repeat' (first|(refine aq [0,4] [900,4] [(810,10),(805,5)] [(5,.lptr 805 0)] [(805,some (.box [.osl 810 c.vals.length,.int .i64 c.per,.int .i64 c.inc])),(810,some (.arr c.vals.length 1 (fun i=>[.int .i64 (c.vals.getD i 0)]) 3))] ⟨⟨rfl,rfl⟩,?_,?_⟩ ?_;(solve|((refine' subP)<;>first|exact ObLe.arr (by simp) (fun i hi=>rfl)|exact ObLe.box (.cons (AvLe.of_eq (congrArg (AV.osl 10) (by simp))) (.cons AvLe.rfl (.cons AvLe.rfl .nil)))|exact sq1));(solve|((refine' subP)<;>first|exact ObLe.arr (by simp) (fun i hi=>rfl)|exact ObLe.box (.cons (AvLe.of_eq (congrArg (AV.osl 10) (by simp))) (.cons AvLe.rfl (.cons AvLe.rfl .nil)))|exact sq1));conv=>whnf)|refine' ah|(refine ay p1 ?_)|(refine ay p2 ?_))
  all_goals try first|omega|(exfalso;omega)|(unfold inI64;omega)|exact aF (by repeat' (first|exact True.intro|rfl|refine And.intro ?_ ?_))|exact ⟨by omega,bD (by omega) (fun _ _=>rfl)⟩|exact bD (by omega) (fun _ _=>rfl)|exact ⟨Nat.zero_le _,bD (by omega) (fun _ _=>rfl)⟩
  refine a9 [4] [900,4,810] [] [] [] ⟨⟨rfl,rfl⟩,?_,?_⟩ (ak 810 rfl rfl (fun _ _=>rfl) ?_ ?_ ?_)
  ·skip
   all_goals exact sq1
  ·skip
   all_goals exact sq1
  ·repeat' (first|exact True.intro|exact Nat.le_refl _|exact ⟨Nat.le_refl _,rfl⟩|exact (show k.toNat <= c.vals.length by omega)|refine And.intro ?_ ?_|refine fun _ _=>?_)
  ·repeat' (first|exact True.intro|exact Nat.le_refl _|exact ⟨Nat.le_refl _,rfl⟩|exact (show k.toNat <= c.vals.length by omega)|refine And.intro ?_ ?_|refine fun _ _=>?_)
  exact aO ⟨(⟨c.vals.take k.toNat,c.per,c.inc⟩,s2),AvLe.agg (.cons (AvLe.isl hN fun i hi=>by simp [List.getD_eq_getElem?_getD,hi]) (.cons AvLe.rfl (.cons AvLe.rfl .nil))),⟨rfl,trivial⟩,o2⟩
 ·obtain ⟨v,s3,_,hv3,o3,p3⟩:=n_at s2 o2 5 (by omega) (by omega)
  refine ao a8 _ 96 [.cell 4 39] func87 rfl (by kernel_rfl) ntmps87 (by rw [results87]) (by simp) ⟨rfl,rfl,aC rfl⟩ (fun x=>⟨rfl,aC rfl,rfl⟩) ?_
  repeat' (first|(refine aq [4] [900,4] [] [(5,.lptr 805 0)] [(805,some (.box [.osl 810 (c.vals.set k.toNat (c.vals.getD k.toNat 0 + (v - 2))).length,.int .i64 c.per,.int .i64 c.inc])),(810,some (.arr (c.vals.set k.toNat (c.vals.getD k.toNat 0 + (v - 2))).length 1 (fun i=>[.int .i64 ((c.vals.set k.toNat (c.vals.getD k.toNat 0 + (v - 2))).getD i 0)]) 3))] ⟨⟨rfl,rfl⟩,?_,?_⟩ ?_;(solve|((refine' subP)<;>first|exact ObLe.box (.cons (AvLe.of_eq (congrArg (AV.osl 810) (by simp))) (.cons AvLe.rfl (.cons AvLe.rfl .nil)))|exact ObLe.arr (by simp) fun i hi=>(ba encI 0 c.vals hK _ rfl i).trans (reL_id _).symm|exact sq1));(solve|((refine' subP)<;>first|exact ObLe.box (.cons (AvLe.of_eq (congrArg (AV.osl 810) (by simp))) (.cons AvLe.rfl (.cons AvLe.rfl .nil)))|exact ObLe.arr (by simp) fun i hi=>(ba encI 0 c.vals hK _ rfl i).trans (reL_id _).symm|exact sq1));(conv=>whnf);(refine az 810 rfl rfl (fun _ _=>rfl) ?_ ?_ ?_;(solve | try refine' frzZ);(solve | try refine' frzZ));(conv=>whnf))|(refine aq [0,4] [900,4] [(810,10),(805,5)] [(5,.lptr 805 0)] [(805,some (.box [.osl 810 c.vals.length,.int .i64 c.per,.int .i64 c.inc])),(810,some (.arr c.vals.length 1 (fun i=>[.int .i64 (c.vals.getD i 0)]) 3))] ⟨⟨rfl,rfl⟩,?_,?_⟩ ?_;(solve|((refine' subP)<;>first|exact ObLe.arr (by simp) (fun i hi=>rfl)|exact ObLe.box (.cons (AvLe.of_eq (congrArg (AV.osl 10) (by simp))) (.cons AvLe.rfl (.cons AvLe.rfl .nil)))|exact sq1));(solve|((refine' subP)<;>first|exact ObLe.arr (by simp) (fun i hi=>rfl)|exact ObLe.box (.cons (AvLe.of_eq (congrArg (AV.osl 10) (by simp))) (.cons AvLe.rfl (.cons AvLe.rfl .nil)))|exact sq1));conv=>whnf)|refine' ah|(refine ay p1 ?_)|(refine ay p2 ?_)|(refine ay p3 ?_))
  all_goals try first|omega|(exfalso;omega)|(unfold inI64;omega)|exact aF (by repeat' (first|exact True.intro|rfl|refine And.intro ?_ ?_))|exact ⟨by omega,bD (by omega) (fun _ _=>rfl)⟩|exact bD (by omega) (fun _ _=>rfl)|exact ⟨Nat.zero_le _,bD (by omega) (fun _ _=>rfl)⟩
  exact aJ ⟨(⟨c.vals.set k.toNat (c.vals.getD k.toNat 0 + (v - 2)),c.per,c.inc⟩,s3),rfl,⟨rfl,trivial⟩,o3⟩
 ·skip
  refine ao a8 _ 96 [.cell 4 39] func87 rfl (by kernel_rfl) ntmps87 (by rw [results87]) (by simp) ⟨rfl,rfl,aC rfl⟩ (fun x=>⟨rfl,aC rfl,rfl⟩) ?_
  repeat' (first|(refine aq [0,4] [900,4] [(810,10),(805,5)] [(5,.lptr 805 0)] [(805,some (.box [.osl 810 c.vals.length,.int .i64 c.per,.int .i64 c.inc])),(810,some (.arr c.vals.length 1 (fun i=>[.int .i64 (c.vals.getD i 0)]) 3))] ⟨⟨rfl,rfl⟩,?_,?_⟩ ?_;(solve|((refine' subP)<;>first|exact ObLe.arr (by simp) (fun i hi=>rfl)|exact ObLe.box (.cons (AvLe.of_eq (congrArg (AV.osl 10) (by simp))) (.cons AvLe.rfl (.cons AvLe.rfl .nil)))|exact sq1));(solve|((refine' subP)<;>first|exact ObLe.arr (by simp) (fun i hi=>rfl)|exact ObLe.box (.cons (AvLe.of_eq (congrArg (AV.osl 10) (by simp))) (.cons AvLe.rfl (.cons AvLe.rfl .nil)))|exact sq1));conv=>whnf)|refine' ah|(refine ay p1 ?_)|(refine ay p2 ?_))
  all_goals try first|omega|(exfalso;omega)|(unfold inI64;omega)|exact aF (by repeat' (first|exact True.intro|rfl|refine And.intro ?_ ?_))|exact ⟨by omega,bD (by omega) (fun _ _=>rfl)⟩|exact bD (by omega) (fun _ _=>rfl)|exact ⟨Nat.zero_le _,bD (by omega) (fun _ _=>rfl)⟩
  refine ag (ι:={p:List Int × Rd // p.2.ok/\1 <= p.1.length/\p.1.length <= 401}) [0,4,5] [4] [] ⟨(c.vals,s2),o2,hl.1,by dsimp only;omega⟩ (fun ⟨(l,_),_⟩=>500 - l.length) (fun _=>[]) (fun ⟨(l,r),_⟩=>[(805,some (.box [.osl 810 l.length,.int .i64 c.per,.int .i64 c.inc])),(810,some (.arr l.length 1 (fun i=>[.int .i64 (l.getD i 0)]) 3)),(900,some r.ob)]) ?_ ?_
  ·refine ⟨⟨rfl,rfl⟩,?_,?_⟩
   all_goals exact sq1
  ·rintro ⟨⟨l,r⟩,hr,hl1,hl2⟩
   conv=>whnf
   dsimp only at hr hl1 hl2
   obtain ⟨y,r2,_,hy,o3,p3⟩:=n_at r hr 2 (by omega) (by omega)
   have hidx:((l.length:Int) - 1).toNat < l.length:=by omega
   obtain ⟨l',el⟩:∃ l',l' = l ++ [l.getD ((l.length:Int) - 1).toNat 0]:=⟨_,rfl⟩
   have hl':l'.length = l.length + 1:=by rw [el];simp
   by_cases hlt:(l.length:Int) < 400 + y
   ·skip
    repeat' (first|(refine aa (fun hb=>?_) (fun hb=>absurd hlt hb);conv=>whnf)|refine' ah|(refine ay p3 ?_))
    all_goals try first|omega|(exfalso;omega)|(unfold inI64;omega)|exact ⟨by omega,bD (by omega) (fun _ _=>rfl)⟩|exact aS (by omega) rfl|exact ⟨Nat.le_refl _,aS (by omega) rfl⟩
    refine aX [(810,46)] ⟨(l',r2),o3,by dsimp only;omega,by dsimp only;omega⟩ ⟨⟨rfl,rfl⟩,?_,?_⟩ (by dsimp only;omega)
    ·skip
     all_goals ((refine' subP)<;>first|exact ObLe.arr hl'.symm (fun i hi=>(br encI 0 l (l.getD ((l.length:Int) - 1).toNat 0) rfl i hi _ (fun e=>by rw [e,Nat.sub_self];rfl)).trans ((congrArg (fun z=>eget encI 0 z i) el.symm).trans (reL_id _).symm))|exact ObLe.box (.cons (AvLe.of_eq (congrArg (AV.osl 46) hl'.symm)) (.cons AvLe.rfl (.cons AvLe.rfl .nil)))|exact sq1)
    ·skip
     all_goals exact sq1
   ·skip
    repeat' (first|(refine aa (fun hb=>absurd hb hlt) (fun hb=>?_);conv=>whnf)|refine' ah|(refine ay p3 ?_))
    all_goals try exact ariB
    refine a9 [4] [900,4,810] [] [] [] ⟨⟨rfl,rfl⟩,?_,?_⟩ (ak 810 rfl rfl (fun _ _=>rfl) ?_ ?_ ?_)
    ·skip
     all_goals exact sq1
    ·skip
     all_goals exact sq1
    ·all_goals try refine' frzZ
    ·all_goals try refine' frzZ
    exact aJ ⟨(⟨l,c.per,c.inc⟩,r2),rfl,⟨rfl,trivial⟩,o3⟩
end Go.Nc
