/- Merged: RW0, RW1, RW2, RW3, RW4, RW5, RW6. -/
import Derived.Test.YtdkcmppdckkofaaGreatNcJD
import Derived.Test.YtdkcmppdckkofaaGreatNcRBC
import Derived.Test.YtdkcmppdckkofaaGreatNcKB
import Derived.Test.YtdkcmppdckkofaaGreatNcKC
namespace Go.Nc
open Go.Proofs.Tryz
open Go.Proofs
theorem vF (s:ByteArray):∃ b:Bool,(b = true -> dR s/\tQ s)/\q0c 202 [.str s] (.bool b):=by
 obtain ⟨b,hb,p⟩:=po s
 obtain ⟨c,hc,q⟩:=rp s
 refine ⟨b,fun h=>?_,p⟩
 subst h
 rw [hc.2 (hb.1 rfl)] at q
 exact ⟨p,q⟩
theorem ss (s:ByteArray):∃ b:Bool,(b = true -> dR s/\tQ s)/\q0c 133 [.str s] (.bool b):=by
 obtain ⟨b,hb,p⟩:=rp s
 obtain ⟨c,hc,q⟩:=po s
 refine ⟨b,fun h=>?_,p⟩
 subst h
 rw [hc.2 (hb.1 rfl)] at q
 exact ⟨q,p⟩
theorem ud (n lo hi:Int):∃ b:Bool,(b = false -> lo <= n/\n <= hi)/\q0c 285 [.int .i64 n,.ibox [.int .i64 lo] 0,.ibox [.int .i64 hi] 0] (.bool b):=by
 by_cases h:lo <= n/\n <= hi
 ·exact ⟨false,fun _=>h,kI n lo hi h.1 h.2⟩
 ·refine ⟨true,fun e=>(by cases e),?_⟩
  refine opG func285 ntmps285 results285 fun w0 Im0 ρ0=>?_
  repeat' (first|refine' ak | fail)
  all_goals first|omega|exact Φ|exact Ψ (by rw [decide_eq_true ω];rfl)
theorem CT (l:List Int) (lo hi:Int) (hl:l.length <= 2000):∃ r:Int,(r < 0 -> ∀ x ∈ l,lo <= x/\x <= hi)/\q0c 292 [ints l,.fn 285 [.ibox [.int .i64 lo] 0,.ibox [.int .i64 hi] 0]] (.int .i64 r):=by
 refine opE func292 ntmps292 results292 ?_
 repeat' (first|refine' ah | fail)
 all_goals try exact ariA
 refine ag (ι:={j:Nat // j <= l.length/\∀ i,i < j -> lo <= l.getD i 0/\l.getD i 0 <= hi}) [0,1,7] [] [] ⟨0,π _,ν⟩ (fun ⟨j,_⟩=>l.length - j) (fun ⟨j,_⟩=>[(8,.int .i64 j)]) (fun _=>[]) ?_ ?_
 ·exact ⟨⟨rfl,rfl⟩,sq1,sq1⟩
 ·rintro ⟨j,hj,hI⟩
  conv=>whnf
  by_cases hjl:(j:Int) < l.length
  ·obtain ⟨b,hb0,p⟩:=ud (l.getD (j:Int).toNat 0) lo hi
   rcases b with _ | _
   ·skip
    repeat' (first|(refine aa (fun hb=>?_) (fun hb=>absurd hjl hb);conv=>whnf)|(exact aI [] ⟨j + 1,ω,fun i hi=>(ζ i j).elim (hI i) fun h9=>by have e9:i = j:=ω;subst e9;exact hb0 rfl⟩)|refine' ah|refine ab p ?_)
    all_goals try exact ariA
   ·skip
    repeat' (first|(refine aa (fun hb=>?_) (fun hb=>absurd hjl hb);conv=>whnf)|refine' ah|refine ab p ?_)
    all_goals try exact ariA
    exact ae ⟨j,rfl,fun h=>ω⟩
  ·skip
   repeat' (first|(refine aa (fun hb=>absurd hb hjl) (fun hb=>?_);conv=>whnf)|refine' ah | fail)
   all_goals try exact ariA
   refine ae ⟨-1,rfl,fun _ x hx=>?_⟩
   obtain ⟨i,hi,e⟩:=List.mem_iff_getElem.1 hx
   have:=hI i ω
   rw [ψ,β hi] at this
   rw [<- e]
   exact this
theorem cf_raw (l:List Int) (lo hi:Int) (hl:l.length <= 2000):∃ b:Bool,(b = false -> ∀ x ∈ l,lo <= x/\x <= hi)/\q0c 284 [ints l,.fn 285 [.ibox [.int .i64 lo] 0,.ibox [.int .i64 hi] 0]] (.bool b):=by
 obtain ⟨r,hr,p⟩:=CT l lo hi hl
 refine ⟨decide (0 <= r),fun e=>hr (by have:=of_decide_eq_false e;omega),?_⟩
 refine opG func284 ntmps284 results284 fun w0 Im0 ρ0=>?_
 repeat' (first|refine' ak|refine ab p ?_)
 all_goals exact Φ
theorem kA (l:List Int) (lo hi:Int) (hl:l.length <= 2000):∃ b:Bool,(b = true -> ∀ x ∈ l,lo <= x/\x <= hi)/\q0c 282 [ints l,.int .i64 lo,.int .i64 hi] (.bool b):=by
 obtain ⟨b,hb,p⟩:=cf_raw l lo hi hl
 refine ⟨!b,fun e=>hb (by cases b<;>first|rfl | cases e),?_⟩
 refine opG func282 ntmps282 results282 fun w0 Im0 ρ0=>?_
 refine gv ?_
 conv=>whnf
 refine eQ 4 rfl rfl rfl ?_ ?_ ?_
 rotate_left
 rotate_left
 refine eQ 5 rfl rfl rfl ?_ ?_ ?_
 rotate_left
 rotate_left
 refine aS [] [] [] [(0,ints l),(4,.ibox [.int .i64 lo] 0),(5,.ibox [.int .i64 hi] 0)] [] ⟨⟨rfl,rfl⟩,?_,?_⟩ ?_
 rotate_left
 rotate_left
 conv=>whnf
 repeat' (first|refine' ak|refine ab p ?_)
 all_goals try refine' frzZ
 all_goals try dsimp only at hb
 all_goals try simp only [χ] at hb
 all_goals first|exact Φ|exact fun _ _=>rfl|omega|(dsimp only;omega)|(dsimp only;unfold aj;omega)|((repeat' (first|exact True.intro|refine And.intro ?_ ?_))<;>first|rfl|exact fun _ _=>rfl|(refine Θ ?_;dsimp only;omega)|((conv=>whnf)<;>first|exact Φ|exact Γ|(refine Θ ?_;dsimp only;omega)))
theorem cR (r:Bool) (L:List (List Int)) (hm:L.length <= 10):∃ e:Int,(e = 0 -> r = true/\∀ l ∈ L,l = [])/\q0c 268 [.bool r,.isl L.length 1 fun i=>[ints (L.getD i [])]] (.int .i64 e):=by
 cases r with
 | false=>
  refine ⟨2,fun h=>absurd h τ,?_⟩
  refine opG func268 ntmps268 results268 fun w0 Im0 ρ0=>?_
  repeat' (first|refine' ak | fail)
  all_goals exact Φ
 | true=>
  refine opE func268 ntmps268 results268 ?_
  repeat' (first|refine' ah | fail)
  all_goals try exact ariA
  refine ag (ι:={j:Nat // j <= L.length/\∀ i,i < j -> L.getD i [] = []}) [9,10] [] [] ⟨0,π _,ν⟩ (fun ⟨j,_⟩=>L.length - j) (fun ⟨j,_⟩=>[(11,.int .i64 j)]) (fun _=>[]) ?_ ?_
  ·exact ⟨⟨rfl,rfl⟩,sq1,sq1⟩
  ·rintro ⟨j,hj,hI⟩
   conv=>whnf
   by_cases hjl:(j:Int) < L.length
   ·by_cases hx:0 < ((L.getD (j:Int).toNat []).length:Int)
    ·skip
     repeat' (first|(refine aa (fun hb=>?_) (fun hb=>absurd hx hb);conv=>whnf)|(refine aa (fun hb=>?_) (fun hb=>absurd hjl hb);conv=>whnf)|refine' ah | fail)
     all_goals try exact ariA
     exact ae ⟨6,rfl,fun h=>absurd h τ⟩
    ·have e0:L.getD j [] = []:=List.eq_nil_of_length_eq_zero (by have:(L.getD (j:Int).toNat []) = L.getD j []:=rfl;rw [this] at hx;omega)
     repeat' (first|(refine aa (fun hb=>absurd hb hx) (fun hb=>?_);conv=>whnf)|(refine aa (fun hb=>?_) (fun hb=>absurd hjl hb);conv=>whnf)|(exact aI [] ⟨j + 1,ω,fun i hi=>(ζ i j).elim (hI i) fun h9=>by have e9:i = j:=ω;subst e9;exact e0⟩)|refine' ah | fail)
     all_goals try exact ariA
   ·skip
    repeat' (first|(refine aa (fun hb=>absurd hb hjl) (fun hb=>?_);conv=>whnf)|refine' ah | fail)
    all_goals try exact ariA
    refine ae ⟨0,rfl,fun _=>⟨rfl,fun x hx=>?_⟩⟩
    obtain ⟨i,hi,e⟩:=List.mem_iff_getElem.1 hx
    have:=hI i ω
    rw [ψ,β hi] at this
    rw [<- e]
    exact this
theorem BL (k cap cls:Int) (ws sl:List Int):∃ e:Int,(e = 0 -> ws = []/\sl = [])/\q0c 265 [.agg [],Line.av ⟨k,cap,cls,ws,sl⟩] (.int .i64 e):=by
 obtain ⟨e,he,p⟩:=cR true [ws,sl] η
 refine ⟨e,fun h=>⟨(he h).2 _ η,(he h).2 _ η⟩,?_⟩
 refine opG func265 ntmps265 results265 fun w0 Im0 ρ0=>?_
 repeat' (first|refine' ak|(refine aX [.bool true] [] p rfl (ξ _) ?_ ?_ ?_;rotate_left;rotate_left;conv=>whnf))
 all_goals first|exact Φ|exact ax (by repeat' (first|exact True.intro|rfl|refine And.intro ?_ ?_))
theorem zV (k cap cls:Int) (ws sl:List Int):∃ e:Int,(e = 0 -> ws = []/\sl = [])/\q0c 269 [.agg [],Line.av ⟨k,cap,cls,ws,sl⟩] (.int .i64 e):=by
 obtain ⟨e,he,p⟩:=cR true [ws,sl] η
 refine ⟨e,fun h=>⟨(he h).2 _ η,(he h).2 _ η⟩,?_⟩
 refine opG func269 ntmps269 results269 fun w0 Im0 ρ0=>?_
 repeat' (first|refine' ak|(refine aX [.bool true] [] p rfl (ξ _) ?_ ?_ ?_;rotate_left;rotate_left;conv=>whnf))
 all_goals first|exact Φ|exact ax (by repeat' (first|exact True.intro|rfl|refine And.intro ?_ ?_))
theorem zW (k cap cls:Int) (hc:1 <= cls/\cls <= 6) (ws sl:List Int):∃ e:Int,(e = 0 -> cls = ws.length/\(∀ x ∈ ws,1 <= x/\x <= 20)/\sl = [])/\q0c 279 [.agg [],Line.av ⟨k,cap,cls,ws,sl⟩] (.int .i64 e):=by
 by_cases hl:(ws.length:Int) = cls
 ·obtain ⟨b,hb,q⟩:=kA ws 1 20 ω
  obtain ⟨e,he,p⟩:=cR b [sl] η
  refine ⟨e,fun h=>⟨hl.symm,hb (he h).1,(he h).2 _ η⟩,?_⟩
  refine opG func279 ntmps279 results279 fun w0 Im0 ρ0=>?_
  repeat' (first|refine' ak|refine ab q ?_|(refine aX [.bool b] [] p rfl (ξ _) ?_ ?_ ?_;rotate_left;rotate_left;conv=>whnf))
  all_goals first|exact Φ|exact absurd hl (by assumption)|exact ax (by repeat' (first|exact True.intro|rfl|refine And.intro ?_ ?_))
 ·obtain ⟨e,he,p⟩:=cR false [sl] η
  refine ⟨e,fun h=>absurd (he h).1 τ,?_⟩
  refine opG func279 ntmps279 results279 fun w0 Im0 ρ0=>?_
  repeat' (first|(refine aa (fun hb=>absurd hb hl) (fun hb=>?_);conv=>whnf)|refine' ak|(refine aX [.bool false] [] p rfl (ξ _) ?_ ?_ ?_;rotate_left;rotate_left;conv=>whnf))
  all_goals first|exact Φ|exact ax (by repeat' (first|exact True.intro|rfl|refine And.intro ?_ ?_))
theorem su (k cap cls:Int) (hc:1 <= cls/\cls <= 6) (ws sl:List Int):∃ e:Int,(e = 0 -> cls = ws.length/\(∀ x ∈ ws,1 <= x/\x <= 6000)/\sl = [])/\q0c 294 [.agg [],Line.av ⟨k,cap,cls,ws,sl⟩] (.int .i64 e):=by
 by_cases hl:(ws.length:Int) = cls
 ·obtain ⟨b,hb,q⟩:=kA ws 1 6000 ω
  obtain ⟨e,he,p⟩:=cR b [sl] η
  refine ⟨e,fun h=>⟨hl.symm,hb (he h).1,(he h).2 _ η⟩,?_⟩
  refine opG func294 ntmps294 results294 fun w0 Im0 ρ0=>?_
  repeat' (first|refine' ak|refine ab q ?_|(refine aX [.bool b] [] p rfl (ξ _) ?_ ?_ ?_;rotate_left;rotate_left;conv=>whnf))
  all_goals first|exact Φ|exact absurd hl (by assumption)|exact ax (by repeat' (first|exact True.intro|rfl|refine And.intro ?_ ?_))
 ·obtain ⟨e,he,p⟩:=cR false [sl] η
  refine ⟨e,fun h=>absurd (he h).1 τ,?_⟩
  refine opG func294 ntmps294 results294 fun w0 Im0 ρ0=>?_
  repeat' (first|(refine aa (fun hb=>absurd hb hl) (fun hb=>?_);conv=>whnf)|refine' ak|(refine aX [.bool false] [] p rfl (ξ _) ?_ ?_ ?_;rotate_left;rotate_left;conv=>whnf))
  all_goals first|exact Φ|exact ax (by repeat' (first|exact True.intro|rfl|refine And.intro ?_ ?_))
theorem zX (k cap cls:Int) (hc:1 <= cls/\cls <= 6) (ws sl:List Int):∃ e:Int,(e = 0 -> ws = []/\1 <= sl.length/\sl.length <= 40/\∀ x ∈ sl,-1 <= x/\x <= cls - 1)/\q0c 304 [.agg [],Line.av ⟨k,cap,cls,ws,sl⟩] (.int .i64 e):=by
 by_cases h1:(1:Int) <= sl.length
 ·by_cases h2:(sl.length:Int) <= 40
  ·obtain ⟨b,hb,q⟩:=kA sl (-1) (cls - 1) ω
   obtain ⟨e,he,p⟩:=cR b [ws] η
   refine ⟨e,fun h=>⟨(he h).2 _ η,ω,ω,hb (he h).1⟩,?_⟩
   refine opG func304 ntmps304 results304 fun w0 Im0 ρ0=>?_
   repeat' (first|refine' ak|refine ab q ?_|(refine aX [.bool b] [] p rfl (ξ _) ?_ ?_ ?_;rotate_left;rotate_left;conv=>whnf))
   all_goals first|exact Φ|omega|(dsimp only;unfold aj;omega)|exact absurd h1 (by assumption)|exact absurd h2 (by assumption)|exact ax (by repeat' (first|exact True.intro|rfl|refine And.intro ?_ ?_))
  ·obtain ⟨e,he,p⟩:=cR false [ws] η
   refine ⟨e,fun h=>absurd (he h).1 τ,?_⟩
   refine opG func304 ntmps304 results304 fun w0 Im0 ρ0=>?_
   repeat' (first|(refine aa (fun hb=>?_) (fun hb=>absurd h1 hb);conv=>whnf)|(refine aa (fun hb=>absurd hb h2) (fun hb=>?_);conv=>whnf)|refine' ak|(refine aX [.bool false] [] p rfl (ξ _) ?_ ?_ ?_;rotate_left;rotate_left;conv=>whnf))
   all_goals first|exact Φ|exact ax (by repeat' (first|exact True.intro|rfl|refine And.intro ?_ ?_))
 ·obtain ⟨e,he,p⟩:=cR false [ws] η
  refine ⟨e,fun h=>absurd (he h).1 τ,?_⟩
  refine opG func304 ntmps304 results304 fun w0 Im0 ρ0=>?_
  repeat' (first|(refine aa (fun hb=>absurd hb h1) (fun hb=>?_);conv=>whnf)|refine' ak|(refine aX [.bool false] [] p rfl (ξ _) ?_ ?_ ?_;rotate_left;rotate_left;conv=>whnf))
  all_goals first|exact Φ|exact ax (by repeat' (first|exact True.intro|rfl|refine And.intro ?_ ?_))
theorem kf5 {k:Int} {a b c d e:AV} (h:¬ (1 <= k/\k <= 5)):ft (.int .i64 k) [(.int .i64 1,a),(.int .i64 2,b),(.int .i64 3,c),(.int .i64 4,d),(.int .i64 5,e)] 0 = some none:=by
 simp only [ft,if_neg (ω:¬ k = 1),if_neg (ω:¬ k = 2),if_neg (ω:¬ k = 3),if_neg (ω:¬ k = 4),if_neg (ω:¬ k = 5)]
theorem zY (k:Int) (h:¬ (1 <= k/\k <= 5)):q0c 203 [.int .i64 k] (.tup [.niface,.bool false]):=by
 refine opG func203 ntmps203 results203 fun w0 Im0 ρ0=>?_
 repeat' (first|refine' ak|(refine VLook.mk ⟨none,rfl,?_⟩;conv=>whnf)|(refine VLook.mk ⟨none,kf5 h,?_⟩;conv=>whnf))
 all_goals exact Φ
theorem fK (l:Line) (t:Nat) (f:FuncId) (e:Int) (hc:1 <= l.cap/\l.cap <= 4000) (hs:1 <= l.classes/\l.classes <= 6) (hk:q0c 203 [.int .i64 l.kind] (.tup [.iface t (.agg []),.bool true]))
  (hm:∀ w,(method (prog.types.size + Made.depth) t (.agg #[]) (nmOf 0)).run prog w = .ok (f,.agg #[]) w) (hf:q0c f [.agg [],l.av] (.int .i64 e)):q0c 140 [l.av] (.int .i64 e):=by
 refine opG func140 ntmps140 results140 fun w0 Im0 ρ0=>?_
 repeat' (first|refine' ak|refine ab hk ?_|(refine VInv.mk ⟨f,fun w=>Eq.trans (by kernel_rfl) (hm w),?_⟩;refine bO hf ?_;conv=>whnf))
 all_goals first|omega|exact Φ
theorem fL (l:Line) (t:Nat) (hc:¬ ((1 <= l.cap/\l.cap <= 4000)/\1 <= l.classes/\l.classes <= 6)) (hk:q0c 203 [.int .i64 l.kind] (.tup [.iface t (.agg []),.bool true])):q0c 140 [l.av] (.int .i64 2):=by
 refine opG func140 ntmps140 results140 fun w0 Im0 ρ0=>?_
 repeat' (first|refine' ak|(refine ab hk ?_) | fail)
 all_goals first|exact Φ|(exfalso;omega) | skip
theorem xd (l:Line):∃ e:Int,(e = 0 -> LineOk l)/\q0c 140 [l.av] (.int .i64 e):=by
 obtain ⟨k,cap,cls,ws,sl⟩:=l
 by_cases hk:1 <= k/\k <= 5
 ·by_cases hc:(1 <= cap/\cap <= 4000)/\1 <= cls/\cls <= 6
  ·rcases (ω:k = 1 \/ k = 2 \/ k = 3 \/ k = 4 \/ k = 5) with rfl|rfl|rfl|rfl|rfl
   ·obtain ⟨e,he,p⟩:=BL 1 cap cls ws sl
    exact ⟨e,fun h=>⟨hc.1,hc.2,.inl ⟨.inl rfl,he h⟩⟩,fK _ 215 265 e hc.1 hc.2 dK jo p⟩
   ·obtain ⟨e,he,p⟩:=zV 2 cap cls ws sl
    exact ⟨e,fun h=>⟨hc.1,hc.2,.inl ⟨.inr rfl,he h⟩⟩,fK _ 216 269 e hc.1 hc.2 i5 jp p⟩
   ·obtain ⟨e,he,p⟩:=zW 3 cap cls hc.2 ws sl
    exact ⟨e,fun h=>⟨hc.1,hc.2,.inr (.inl ⟨rfl,he h⟩)⟩,fK _ 217 279 e hc.1 hc.2 i6 jq p⟩
   ·obtain ⟨e,he,p⟩:=su 4 cap cls hc.2 ws sl
    exact ⟨e,fun h=>⟨hc.1,hc.2,.inr (.inr (.inl ⟨rfl,he h⟩))⟩,fK _ 218 294 e hc.1 hc.2 i7 jr p⟩
   ·obtain ⟨e,he,p⟩:=zX 5 cap cls hc.2 ws sl
    exact ⟨e,fun h=>⟨hc.1,hc.2,.inr (.inr (.inr ⟨rfl,he h⟩))⟩,fK _ 219 304 e hc.1 hc.2 i8 js p⟩
  ·refine ⟨2,fun h=>absurd h τ,?_⟩
   rcases (ω:k = 1 \/ k = 2 \/ k = 3 \/ k = 4 \/ k = 5) with rfl|rfl|rfl|rfl|rfl
   ·exact fL _ 215 hc dK
   ·exact fL _ 216 hc i5
   ·exact fL _ 217 hc i6
   ·exact fL _ 218 hc i7
   ·exact fL _ 219 hc i8
 ·refine ⟨9,fun h=>absurd h τ,?_⟩
  have p:=zY k hk
  refine opG func140 ntmps140 results140 fun w0 Im0 ρ0=>?_
  repeat' (first|refine' ak|refine ab p ?_)
  all_goals exact Φ
theorem sx {x:Int}:∀ {l:List Int} (i:Nat),x ∈ l -> ∃ j,ft (.int .i64 x) (l.map fun y=>(.int .i64 y,.bool true)) i = some (some (j,.bool true))
 | y :: l,i,h=>by
  by_cases e:x = y
  ·exact ⟨i,by simp only [List.map_cons,ft,if_pos e]⟩
  ·obtain ⟨j,hj⟩:=sx (l:=l) (i + 1) (by simpa [e] using h)
   exact ⟨j,by simp only [List.map_cons,ft,if_neg e];exact hj⟩
theorem kB {x:ByteArray}:∀ {l:List ByteArray} (i:Nat),x ∈ l -> ∃ j,ft (.str x) (l.map fun y=>(.str y,.bool true)) i = some (some (j,.bool true))
 | y :: l,i,h=>by
  by_cases e:x = y
  ·exact ⟨i,by simp only [List.map_cons,ft,if_pos e]⟩
  ·obtain ⟨j,hj⟩:=kB (l:=l) (i + 1) (by simpa [e] using h)
   exact ⟨j,by simp only [List.map_cons,ft,if_neg e];exact hj⟩
def HopP (n:Net) (f:Flow) (j:Nat):Prop:=(0 <= f.route.getD j 0/\f.route.getD j 0 < n.lines.length)/\f.route.getD j 0 ∉ f.route.take j/\0 <= f.class_/\f.class_ < (n.lines.getD (f.route.getD j 0).toNat default).classes
def oH (n:Net) (f:Flow):Prop:=(1 <= f.route.length/\f.route.length <= 4)/\∀ j,j < f.route.length -> HopP n f j
def zZ (f:Flow):Prop:=(1 <= f.least/\f.least <= f.most/\f.most <= 1500)/\f.con.valid = true/\f.con.vals.getD 0 0 = 0/\f.con.vals.getD (f.con.vals.length - 1) 0 ≠ inf
theorem im {c:Curve} (h:c.valid = true):1 <= c.vals.length/\c.vals.length <= 400:=by
 unfold Curve.valid at h
 split at h
 ·cases h
 ·omega
set_option maxHeartbeats 1000000 in
theorem Aa (n:Net) (f:Flow):∃ e:Int,(e = 0 -> oH n f)/\q0c 141 [n.av,f.av] (.int .i64 e):=by
 by_cases h0:(f.route.length:Int) = 0
 ·refine ⟨5,fun h=>absurd h τ,?_⟩
  refine opG func141 ntmps141 results141 fun w0 Im0 ρ0=>?_
  repeat' (first|(refine aa (fun hb=>?_) (fun hb=>absurd h0 hb);conv=>whnf)|refine' ak | fail)
  all_goals exact Φ
 by_cases h4:(f.route.length:Int) > 4
 ·refine ⟨3,fun h=>absurd h τ,?_⟩
  refine opG func141 ntmps141 results141 fun w0 Im0 ρ0=>?_
  repeat' (first|(refine aa (fun hb=>?_) (fun hb=>absurd h4 hb);conv=>whnf)|(refine aa (fun hb=>absurd hb h0) (fun hb=>?_);conv=>whnf)|refine' ak | fail)
  all_goals exact Φ
 refine opE func141 ntmps141 results141 ?_
 repeat' (first|(refine aa (fun hb=>absurd hb h4) (fun hb=>?_);conv=>whnf)|(refine aa (fun hb=>absurd hb h0) (fun hb=>?_);conv=>whnf)|refine' ah | fail)
 refine ag (ι:={j:Nat // j <= f.route.length/\∀ i,i < j -> HopP n f i}) [2,3,5,18,19] [2,3] [] ⟨0,π _,ν⟩ (fun ⟨j,_⟩=>f.route.length - j) (fun ⟨j,_⟩=>[(20,.int .i64 j)]) (fun ⟨j,_⟩=>[(16,some (.map (rk (f.route.take j))))]) ?_ ?_
 ·refine ⟨⟨rfl,rfl⟩,?_,?_⟩
  all_goals ((refine' subP)<;>first|exact kV|exact sq1)
 ·rintro ⟨j,hj,hI⟩
  conv=>whnf
  by_cases hjl:(j:Int) < f.route.length
  ·obtain ⟨x,ex⟩:∃ x,x = f.route.getD j 0:=⟨_,rfl⟩
   have ex2:f.route.getD (j:Int).toNat 0 = x:=by rw [ex];rfl
   by_cases hin:x ∈ f.route.take j
   ·obtain ⟨q,hq⟩:=sx 0 hin
    repeat' (first|(refine aa (fun hb=>?_) (fun hb=>absurd hjl hb);conv=>whnf)|refine' ah|(refine VLook.mk ⟨some (q,.bool true),(congrArg (fun z=>ft (.int .i64 z) _ 0) ex2).trans hq,?_⟩;conv=>whnf))
    all_goals try first|exact ariA|(rw [ex2] at *;omega)|exact ae ⟨_,rfl,fun h=>absurd h τ⟩
   ·have hk:=lR (x:=x) 0 hin
    by_cases hp:HopP n f j
    ·have hp2:=hp
     unfold HopP at hp2
     rw [<- ex] at hp2
     obtain ⟨p1,p2,p3,p4⟩:=hp2
     repeat' (first|(refine aa (fun hb=>?_) (fun hb=>absurd hjl hb);conv=>whnf)|(refine' aU [] ⟨j + 1,ω,fun i hi=>(ζ i j).elim (hI i) fun h9=>by have e9:i = j:=ω;subst e9;exact hp⟩<;>first|exact kV|(show ObLe (.map (rk (f.route.take j) ++ [(.int .i64 (f.route.getD j 0),.bool true)])) (.map (List.map _ (rk (f.route.take (j + 1)))));refine ObLe.of_eq ?_;rw [iJ ω];simp [rk,reV];rfl)|exact sq1)|refine' ah|(refine VLook.mk ⟨none,(congrArg (fun z=>ft (.int .i64 z) _ 0) ex2).trans hk,?_⟩;conv=>whnf))
     all_goals try first|exact ariA|(rw [ex2] at *;omega)|(exfalso;rw [ex2] at *;omega)
    ·have hF:(0 <= x/\x < n.lines.length) -> 0 <= f.class_ -> f.class_ < (n.lines.getD x.toNat default).classes -> False:=fun a b c=>hp (by unfold HopP;rw [<- ex];exact ⟨a,hin,b,c⟩)
     repeat' (first|(refine aa (fun hb=>?_) (fun hb=>absurd hjl hb);conv=>whnf)|refine' ah|(refine VLook.mk ⟨none,(congrArg (fun z=>ft (.int .i64 z) _ 0) ex2).trans hk,?_⟩;conv=>whnf))
     all_goals try first|exact ariA|(rw [ex2] at *;omega)|exact ae ⟨_,rfl,fun h=>absurd h τ⟩|(exfalso;rw [ex2] at *;exact hF ω ω ω)
  ·skip
   repeat' (first|(refine aa (fun hb=>absurd hb hjl) (fun hb=>?_);conv=>whnf)|refine' ah | fail)
   all_goals try exact ariA
   exact ae ⟨0,rfl,fun _=>⟨ω,fun i hi=>hI i ω⟩⟩
theorem xf (c:Curve) (hv:c.valid = true):∃ b:Bool,(b = true -> c.vals.getD (c.vals.length - 1) 0 ≠ inf)/\q0c 205 [c.av] (.bool b):=by
 have hl:=im hv
 by_cases hf:c.vals.getD (c.vals.length - 1) 0 = inf
 ·have e:((c.vals.length:Int) - 1).toNat = c.vals.length - 1:=ω
  have p:q0c 167 [c.av] (.bool false):=by
   refine opG func167 ntmps167 results167 fun w0 Im0 ρ0=>?_
   repeat' (first|refine' ak | fail)
   all_goals first|exact ariA | skip
   refine Ψ ?_
   show AV.bool (!decide (c.vals.getD ((c.vals.length:Int) - 1).toNat 0 = 4611686018427387904)) = _
   rw [e,decide_eq_true (show c.vals.getD (c.vals.length - 1) 0 = 4611686018427387904 from hf)]
   rfl
  have h:=cJ c
  rw [hv] at h
  refine ⟨false,fun e=>(by cases e),?_⟩
  refine opG func205 ntmps205 results205 fun w0 Im0 ρ0=>?_
  repeat' (first|refine' ak|refine ab h ?_|refine ab p ?_)
  all_goals try dsimp only at hb
  all_goals try simp only [χ] at hb
  all_goals first|exact Φ|exact fun _ _=>rfl|omega|(dsimp only;omega)|(dsimp only;unfold aj;omega)|((repeat' (first|exact True.intro|refine And.intro ?_ ?_))<;>first|rfl|exact fun _ _=>rfl|(refine Θ ?_;dsimp only;omega)|((conv=>whnf)<;>first|exact Φ|exact Γ|(refine Θ ?_;dsimp only;omega)))
 ·exact ⟨true,fun _=>hf,lQ c hv hl hf⟩
theorem ue (f:Flow):∃ e:Int,(e = 0 -> zZ f)/\q0c 142 [f.av] (.int .i64 e):=by
 have hv:=cJ f.con
 cases hvb:f.con.valid with
 | false=>
  rw [hvb] at hv
  refine opE func142 ntmps142 results142 ?_
  repeat' (first|refine' ah|refine ab hv ?_)
  all_goals exact ae ⟨_,rfl,fun h=>absurd h τ⟩
 | true=>
  rw [hvb] at hv
  have hl:=im hvb
  obtain ⟨b,hb0,hf⟩:=xf f.con hvb
  rcases b with _ | _
  ·refine opE func142 ntmps142 results142 ?_
   repeat' (first|refine' ah|refine ab hv ?_|refine ab hf ?_)
   all_goals first|omega|exact ae ⟨_,rfl,fun h=>absurd h τ⟩
  ·refine opE func142 ntmps142 results142 ?_
   repeat' (first|refine' ah|refine ab hv ?_|refine ab hf ?_)
   all_goals try first|omega|exact ae ⟨_,rfl,fun h=>absurd h τ⟩
   exact ae ⟨0,rfl,fun _=>⟨ω,hvb,hb,hb0 rfl⟩⟩
def qn (l:List ByteArray) (j:Nat):Prop:=(dR (l.getD j .empty)/\tQ (l.getD j .empty))/\l.getD j .empty ∉ l.take j
theorem uf (keys:List ByteArray) (nm:ByteArray):∃ e:Int,∃ ks,(e = 0 -> (dR nm/\tQ nm)/\nm ∉ keys/\ks = keys ++ [nm])/\q0b 139 [.mref 37,.str nm] [(37,.map (cT keys))] (.int .i64 e) [(37,.map (cT ks))]:=by
 obtain ⟨b,hb0,p⟩:=vF nm
 rcases b with _ | _
 ·refine ⟨4,keys,fun h=>absurd h τ,?_⟩
  refine opG func139 ntmps139 results139 (fun w0 Im0 ρ0=>?_) (hcl:=⟨rfl,rfl,rfl,aE b7,aE b7,rfl⟩)
  repeat' (first|refine' dG|refine ab p ?_)
  all_goals first|exact Φ|rfl
 ·by_cases hin:nm ∈ keys
  ·refine ⟨60,keys,fun h=>absurd h τ,?_⟩
   obtain ⟨q,hq⟩:=kB 0 hin
   refine opG func139 ntmps139 results139 (fun w0 Im0 ρ0=>?_) (hcl:=⟨rfl,rfl,rfl,aE b7,aE b7,rfl⟩)
   repeat' (first|refine' dG|refine ab p ?_|(refine VLook.mk ⟨some (q,.bool true),hq,?_⟩;conv=>whnf))
   all_goals first|exact Φ|rfl
  ·exact ⟨0,keys ++ [nm],fun _=>⟨hb0 rfl,hin,rfl⟩,xW keys nm (hb0 rfl).1 hin⟩
theorem uh (keys:List ByteArray) (nm:ByteArray):∃ e:Int,∃ ks,(e = 0 -> (dR nm/\tQ nm)/\nm ∉ keys/\ks = keys ++ [nm])/\q0b 139 [.mref 62,.str nm] [(62,.map (cT keys))] (.int .i64 e) [(62,.map (cT ks))]:=by
 obtain ⟨b,hb0,p⟩:=vF nm
 rcases b with _ | _
 ·refine ⟨4,keys,fun h=>absurd h τ,?_⟩
  refine opG func139 ntmps139 results139 (fun w0 Im0 ρ0=>?_) (hcl:=⟨rfl,rfl,rfl,aE b7,aE b7,rfl⟩)
  repeat' (first|refine' dG|refine ab p ?_)
  all_goals first|exact Φ|rfl
 ·by_cases hin:nm ∈ keys
  ·refine ⟨60,keys,fun h=>absurd h τ,?_⟩
   obtain ⟨q,hq⟩:=kB 0 hin
   refine opG func139 ntmps139 results139 (fun w0 Im0 ρ0=>?_) (hcl:=⟨rfl,rfl,rfl,aE b7,aE b7,rfl⟩)
   repeat' (first|refine' dG|refine ab p ?_|(refine VLook.mk ⟨some (q,.bool true),hq,?_⟩;conv=>whnf))
   all_goals first|exact Φ|rfl
  ·exact ⟨0,keys ++ [nm],fun _=>⟨hb0 rfl,hin,rfl⟩,xX keys nm (hb0 rfl).1 hin⟩
theorem qo {α:Type} {l:List α} (d:α) (h:∀ j,j < l.length -> l.getD j d ∉ l.take j):l.Nodup:=by
 refine List.pairwise_iff_getElem.2 fun i j hi hj hij e=>?_
 have:=h j hj
 rw [ψ,β hj] at this
 refine this ?_
 show l[j] ∈ _
 rw [<- e]
 exact List.mem_iff_getElem.2 ⟨i,by simp;omega,by simp⟩
structure NetP (n:Net):Prop where
 len:1 <= n.lines.length/\n.lines.length <= 8
 flen:n.flows.length <= 10
 nlen:n.names.length = n.lines.length
 line:∀ j,j < n.lines.length -> qn n.names j/\LineOk (n.lines.getD j default)
 flow:∀ j,j < n.flows.length -> qn (n.flows.map Flow.name) j/\oH n (n.flows.getD j default)/\zZ (n.flows.getD j default)
theorem dh {α:Type} {l:List α} {x:α} (d:α) (h:x ∈ l):∃ j,j < l.length/\l.getD j d = x:=by
 obtain ⟨j,hj,e⟩:=List.mem_iff_getElem.1 h
 exact ⟨j,hj,by rw [ψ,β hj];exact e⟩
theorem NetP.ok {n:Net} (h:NetP n):NetOk n/\NamesOk n:=by
 have hfe:∀ j:Nat,j < n.flows.length -> (n.flows.map Flow.name).getD j .empty = (n.flows.getD j default).name:=fun j hj=>by simp [hj]
 refine ⟨⟨h.len,h.flen,h.nlen,fun x hx=>?_,qo .empty fun j hj=>(h.line j (by rw [<- h.nlen];exact hj)).1.2,fun l hl=>?_,fun f hf=>?_,qo .empty fun j hj=>(h.flow j (by simpa using hj)).1.2,fun f hf=>?_⟩,fun x hx=>?_,fun f hf=>?_⟩
 ·obtain ⟨j,hj,rfl⟩:=dh .empty hx
  exact (h.line j (by rw [<- h.nlen];exact hj)).1.1.1
 ·obtain ⟨j,hj,rfl⟩:=dh default hl
  exact (h.line j hj).2
 ·obtain ⟨j,hj,rfl⟩:=dh default hf
  rw [<- hfe j hj]
  exact (h.flow j hj).1.1.1
 ·obtain ⟨j,hj,rfl⟩:=dh default hf
  obtain ⟨_,⟨r1,r2⟩,t1,t2,t3,t4⟩:=h.flow j hj
  obtain ⟨f,ef⟩:∃ f,f = n.flows.getD j default:=⟨_,rfl⟩
  rw [<- ef] at r1 r2 t1 t2 t3 t4 ⊢
  refine ⟨r1,fun x hx=>?_,qo 0 fun i hi=>(r2 i hi).2.1,(r2 0 ω).2.2.1,fun x hx=>?_,t1,t2,im t2,t3,t4⟩
  ·obtain ⟨i,hi,rfl⟩:=dh 0 hx
   exact (r2 i hi).1
  ·obtain ⟨i,hi,rfl⟩:=dh 0 hx
   exact (r2 i hi).2.2.2
 ·obtain ⟨j,hj,rfl⟩:=dh .empty hx
  exact (h.line j (by rw [<- h.nlen];exact hj)).1.1.2
 ·obtain ⟨j,hj,rfl⟩:=dh default hf
  rw [<- hfe j hj]
  exact (h.flow j hj).1.1.2
set_option maxHeartbeats 2000000 in
theorem oI (n:Net):∃ e:Int,(e = 0 -> NetOk n/\NamesOk n)/\q0c 78 [n.av] (.int .i64 e):=by
 have hfe:∀ j:Nat,j < n.flows.length -> (n.flows.map Flow.name).getD j .empty = (n.flows.getD j default).name:=fun j hj=>by simp [hj]
 by_cases hlim:(1 <= n.lines.length/\n.lines.length <= 8)/\n.flows.length <= 10/\n.names.length = n.lines.length
 ·obtain ⟨hl1,hl2,hl3⟩:=hlim
  refine opE func78 ntmps78 results78 ?_
  repeat' (first|refine' ah | fail)
  all_goals try first|omega|(exfalso;omega)
  refine ag (ι:={j:Nat // j <= n.lines.length/\∀ i,i < j -> qn n.names i/\LineOk (n.lines.getD i default)}) [1,3,39,40] [1] [] ⟨0,π _,ν⟩ (fun ⟨j,_⟩=>n.lines.length - j) (fun ⟨j,_⟩=>[(41,.int .i64 j)]) (fun ⟨j,_⟩=>[(37,some (.map (cT (n.names.take j))))]) ?_ ?_
  ·refine ⟨⟨rfl,rfl⟩,?_,?_⟩
   all_goals ((refine' subP)<;>first|exact b7|exact sq1)
  ·rintro ⟨j,hj,hI⟩
   conv=>whnf
   by_cases hjl:(j:Int) < n.lines.length
   ·obtain ⟨e1,ks,h1,p1⟩:=uf (n.names.take j) (n.names.getD j .empty)
    obtain ⟨e2,h2,p2⟩:=xd (n.lines.getD j default)
    by_cases he1:e1 = 0
    ·subst he1
     obtain ⟨g1,g2,rfl⟩:=h1 rfl
     by_cases he2:e2 = 0
     ·subst he2
      repeat' (first|(refine aa (fun hb=>?_) (fun hb=>absurd hjl hb);conv=>whnf)|(refine' aU [] ⟨j + 1,ω,fun i hi=>(ζ i j).elim (hI i) fun h9=>by have e9:i = j:=ω;subst e9;exact ⟨⟨g1,g2⟩,h2 rfl⟩⟩<;>first|exact b7|(show ObLe (.map (cT (n.names.take j ++ [n.names.getD j .empty]))) (.map (List.map _ (cT (n.names.take (j + 1)))));refine ObLe.of_eq ?_;rw [AJ (ω:j < n.names.length) .empty];simp [cT,reV];rfl)|exact sq1)|refine' ah|refine a6 p1 ?_|refine ab p2 ?_)
      all_goals try exact ariA
     ·skip
      repeat' (first|(refine aq (fun hb=>?_) (fun hb=>absurd hb he2);conv=>whnf)|(refine aa (fun hb=>?_) (fun hb=>absurd hjl hb);conv=>whnf)|refine' ah|refine a6 p1 ?_|refine ab p2 ?_)
      all_goals try exact ariA
      exact ae ⟨e2,rfl,fun h=>absurd h he2⟩
    ·skip
     repeat' (first|(refine aq (fun hb=>?_) (fun hb=>absurd hb he1);conv=>whnf)|(refine aa (fun hb=>?_) (fun hb=>absurd hjl hb);conv=>whnf)|refine' ah|refine a6 p1 ?_)
     all_goals try exact ariA
     exact ae ⟨e1,rfl,fun h=>absurd h he1⟩
   ·skip
    repeat' (first|(refine aa (fun hb=>absurd hb hjl) (fun hb=>?_);conv=>whnf)|refine' ah | fail)
    all_goals try exact ariA
    refine ⟨(ag (ι:={j:Nat // j <= n.flows.length/\∀ i,i < j -> qn (n.flows.map Flow.name) i/\oH n (n.flows.getD i default)/\zZ (n.flows.getD i default)}) [1,8,64,65] [1] [] ⟨0,π _,ν⟩ (fun ⟨j,_⟩=>n.flows.length - j) (fun ⟨j,_⟩=>[(66,.int .i64 j)]) (fun ⟨j,_⟩=>[(62,some (.map (cT ((n.flows.map Flow.name).take j))))]) ?_ ?_).good⟩
    ·refine ⟨⟨rfl,rfl⟩,?_,?_⟩
     all_goals ((refine' subP)<;>first|exact b7|exact sq1)
    ·rintro ⟨i,hi,hF⟩
     conv=>whnf
     by_cases hil:(i:Int) < n.flows.length
     ·have hfi:=hfe i ω
      obtain ⟨e1,ks,h1,p1⟩:=uh ((n.flows.map Flow.name).take i) (n.flows.getD i default).name
      obtain ⟨e2,h2,p2⟩:=Aa n (n.flows.getD i default)
      obtain ⟨e3,h3,p3⟩:=ue (n.flows.getD i default)
      by_cases he1:e1 = 0
      ·subst he1
       obtain ⟨g1,g2,rfl⟩:=h1 rfl
       by_cases he2:e2 = 0
       ·subst he2
        by_cases he3:e3 = 0
        ·subst he3
         repeat' (first|(refine aa (fun hb=>?_) (fun hb=>absurd hil hb);conv=>whnf)|(refine' aU [] ⟨i + 1,ω,fun k hk=>(ζ k i).elim (hF k) fun h9=>by have e9:k = i:=ω;subst e9;exact ⟨⟨by rw [hfi];exact g1,by rw [hfi];exact g2⟩,h2 rfl,h3 rfl⟩⟩<;>first|exact b7|(show ObLe (.map (cT ((n.flows.map Flow.name).take i ++ [(n.flows.getD i default).name]))) (.map (List.map _ (cT ((n.flows.map Flow.name).take (i + 1)))));refine ObLe.of_eq ?_;rw [AJ (show i < (n.flows.map Flow.name).length by simp;omega) .empty,hfi];simp [cT,reV];rfl)|exact sq1)|refine' ah|refine a6 p1 ?_|refine ab p2 ?_|refine ab p3 ?_)
         all_goals try exact ariA
        ·skip
         repeat' (first|(refine aq (fun hb=>?_) (fun hb=>absurd hb he3);conv=>whnf)|(refine aa (fun hb=>?_) (fun hb=>absurd hil hb);conv=>whnf)|refine' ah|refine a6 p1 ?_|refine ab p2 ?_|refine ab p3 ?_)
         all_goals try exact ariA
         exact ae ⟨e3,rfl,fun h=>absurd h he3⟩
       ·skip
        repeat' (first|(refine aq (fun hb=>?_) (fun hb=>absurd hb he2);conv=>whnf)|(refine aa (fun hb=>?_) (fun hb=>absurd hil hb);conv=>whnf)|refine' ah|refine a6 p1 ?_|refine ab p2 ?_)
        all_goals try exact ariA
        exact ae ⟨e2,rfl,fun h=>absurd h he2⟩
      ·skip
       repeat' (first|(refine aq (fun hb=>?_) (fun hb=>absurd hb he1);conv=>whnf)|(refine aa (fun hb=>?_) (fun hb=>absurd hil hb);conv=>whnf)|refine' ah|refine a6 p1 ?_)
       all_goals try exact ariA
       exact ae ⟨e1,rfl,fun h=>absurd h he1⟩
     ·skip
      repeat' (first|(refine aa (fun hb=>absurd hb hil) (fun hb=>?_);conv=>whnf)|refine' ah | fail)
      all_goals try exact ariA
      exact ae ⟨0,rfl,fun _=>NetP.ok ⟨hl1,hl2,hl3,fun i hi=>hI i ω,fun i hi=>hF i ω⟩⟩
 ·refine opE func78 ntmps78 results78 ?_
  repeat' (first|refine' ah | fail)
  all_goals try first|exact ae ⟨_,rfl,fun h=>absurd h τ⟩
  all_goals exfalso;omega
def sy (l:List Int):Nat -> Int
 | 0=>0
 | j + 1=>l.getD j 0
theorem s8 {c:Curve} (hb:1 <= c.vals.length/\c.vals.length <= 400/\1 <= c.per/\c.per <= 120/\c.per <= c.vals.length/\0 <= c.inc/\c.inc <= 1073741824) {last:Int} (hr:runs 0 c.vals = some last)
  (h:(last = inf/\c.per = 1/\c.inc = 0) \/ (last ≠ inf/\last <= c.vals.getD ((c.vals.length:Int) - c.per).toNat 0 + c.inc)):c.valid = true:=by
 unfold Curve.valid
 rw [if_neg ω,hr]
 dsimp only
 rcases h with ⟨h1,h2,h3⟩ | ⟨h1,h2⟩
 ·rw [if_pos h1,h2,h3]
  rfl
 ·rw [if_neg h1]
  exact decide_eq_true h2
set_option maxHeartbeats 1000000 in
theorem sA (c:Curve):∃ b:Bool,(b = true -> c.valid = true)/\q0c 171 [c.av] (.bool b):=by
 by_cases hc:1 <= c.vals.length/\c.vals.length <= 400/\1 <= c.per/\c.per <= 120/\c.per <= c.vals.length/\0 <= c.inc/\c.inc <= 1073741824
 ·have ell:((c.vals.length:Int) - 1).toNat = c.vals.length - 1:=ω
  refine opE func171 ntmps171 results171 ?_
  repeat' (first|refine' ah | fail)
  all_goals try first|exact ariA|(exfalso;omega)|(exfalso;dsimp only at *;omega)
  refine ag (ι:={j:Nat // j <= c.vals.length/\0 <= sy c.vals j/\sy c.vals j <= inf/\runs 0 c.vals = runs (sy c.vals j) (c.vals.drop j)}) [1,3] [1] [] ⟨0,π _,Int.le_refl 0,(τ:(0:Int) <= inf),rfl⟩ (fun ⟨j,_⟩=>c.vals.length - j) (fun ⟨j,_⟩=>[(4,.int .i64 j)]) (fun _=>[]) ?_ ?_
  ·exact ⟨⟨rfl,rfl⟩,sq1,sq1⟩
  ·rintro ⟨j,hj,hl0,hl1,hr⟩
   conv=>whnf
   by_cases hjl:(j:Int) < c.vals.length
   ·obtain ⟨v,ev⟩:∃ v,v = c.vals.getD j 0:=⟨_,rfl⟩
    have ev2:c.vals.getD (j:Int).toNat 0 = v:=by rw [ev];rfl
    obtain ⟨p,ep⟩:∃ p,p = sy c.vals j:=⟨_,rfl⟩
    have ep2:0 < j -> c.vals.getD ((j:Int) - 1).toNat 0 = p:=fun h=>by
     rw [ep,(ω:((j:Int) - 1).toNat = j - 1)]
     cases j with
     | zero=>omega
     | succ j=>rfl
    have ep3:j = 0 -> p = 0:=fun h=>by rw [ep,h];rfl
    rw [<- ep] at hl0 hl1 hr
    by_cases hg:(v = inf \/ (0 <= v/\v <= 1073741824))/\p <= v
    ·have hs:=lL (ω:j < c.vals.length) hr
     rw [<- ev,if_neg ω] at hs
     unfold inf at hg
     repeat' (first|(refine aa (fun hb=>?_) (fun hb=>absurd hjl hb);conv=>whnf)|(exact aN [] ⟨j + 1,ω,by show 0 <= c.vals.getD j 0;rw [<- ev];omega,by show c.vals.getD j 0 <= inf;rw [<- ev];unfold inf;omega,by show _ = runs (c.vals.getD j 0) _;rw [<- ev];exact hs⟩ ⟨⟨rfl,rfl⟩,sq1,sq1⟩ (by first|omega|(dsimp only;omega)))|refine' ah | fail)
     all_goals try exact ariA
     all_goals (try (have ep4:=ep2 ω;rw [ep4] at *));(try rw [ev2] at *);exfalso;omega
    ·unfold inf at hg
     repeat' (first|(refine aa (fun hb=>?_) (fun hb=>absurd hjl hb);conv=>whnf)|refine' ah | fail)
     all_goals try first|exact ariA|exact ae ⟨false,rfl,fun h=>(by cases h)⟩
     all_goals (try (have ep4:=ep2 ω;rw [ep4] at *));(try rw [ev2] at *);exfalso;(try have ep5:=ep3 ω);omega
   ·have ej:j = c.vals.length:=ω
    subst ej
    rw [List.drop_eq_nil_of_le (ξ _)] at hr
    have hlast:sy c.vals c.vals.length = c.vals.getD (c.vals.length - 1) 0:=by
     cases hn:c.vals.length with
     | zero=>omega
     | succ k=>rfl
    rw [hlast] at hr hl0 hl1
    have hq:=(kl hr).2 _ (aH (i:=((c.vals.length:Int) - c.per).toNat) ω)
    unfold inf at hq hl1
    rw [<- ell] at hr hl0 hl1
    repeat' (first|(refine aa (fun hb=>absurd hb hjl) (fun hb=>?_);conv=>whnf)|refine' ah | fail)
    all_goals try exact ariA
    ·exact ae ⟨_,rfl,fun h=>s8 hc hr (.inl ⟨by assumption,by assumption,of_decide_eq_true h⟩)⟩
    ·exact ae ⟨false,rfl,fun h=>(by cases h)⟩
    ·exact ae ⟨_,rfl,fun h=>s8 hc hr (.inr ⟨by assumption,of_decide_eq_true h⟩)⟩
 ·refine opE func171 ntmps171 results171 ?_
  repeat' (first|refine' ah | fail)
  all_goals try first|exact ae ⟨false,rfl,fun h=>(by cases h)⟩
  all_goals exfalso;omega
theorem qp (c:Curve) (hv:c.valid = true) {b:Bool} (p:q0c 171 [c.av] (.bool b)) (hbt:b = true):∃ b:Bool,(b = true -> c.vals.getD (c.vals.length - 1) 0 ≠ inf)/\q0c 172 [c.av] (.bool b):=by
 subst hbt
 have hl:=im hv
 have ell:((c.vals.length:Int) - 1).toNat = c.vals.length - 1:=ω
 refine opE func172 ntmps172 results172 ?_
 repeat' (first|refine' ah|refine ab p ?_)
 all_goals try first|exact ariA|(exfalso;omega)|(exfalso;dsimp only at *;omega)
 exact ae ⟨_,rfl,fun h e=>by
  rw [ell,decide_eq_true (show c.vals.getD (c.vals.length - 1) 0 = 4611686018427387904 from e)] at h
  cases h⟩
theorem jg (l:List Int) (hl:l.length <= 100000) (lo hi:Int):∃ b:Bool,(b = true -> ∀ x ∈ l,lo <= x/\x <= hi)/\q0c 198 [ints l,.int .i64 lo,.int .i64 hi] (.bool b):=by
 refine opE func198 ntmps198 results198 ?_
 repeat' (first|refine' ah | fail)
 refine ag (ι:={i:Nat // i <= l.length/\∀ k,k < i -> lo <= l.getD k 0/\l.getD k 0 <= hi}) [0,1,2] [] [] ⟨0,ω,ν⟩ (fun ⟨i,_⟩=>l.length - i) (fun ⟨i,_⟩=>[(7,.int .i64 i)]) (fun _=>[]) ?_ ?_
 ·exact ⟨⟨rfl,rfl⟩,sq1,sq1⟩
 ·rintro ⟨i,hi1,hI⟩
  conv=>whnf
  obtain ⟨x,ex⟩:∃ x,x = l.getD i 0:=⟨_,rfl⟩
  have ex2:l.getD (i:Int).toNat 0 = x:=by rw [ex];rfl
  by_cases hx:lo <= x/\x <= hi
  ·skip
   repeat' (first|(exact aI [] ⟨i + 1,ω,fun k hk=>(ζ k i).elim (hI k) fun h9=>by have e9:k = i:=ω;subst e9;rw [<- ex];exact hx⟩)|refine' ah | fail)
   all_goals try first|exact ariA|(rw [ex2] at *;exfalso;omega)
   refine ae ⟨true,rfl,fun _ y hy=>?_⟩
   obtain ⟨k,hk,rfl⟩:=dh 0 hy
   exact hI k ω
  ·skip
   repeat' (first|refine' ah | fail)
   all_goals try first|exact ariA|exact ae ⟨false,rfl,fun h=>(by cases h)⟩|(rw [ex2] at *;exfalso;omega)
   refine ae ⟨true,rfl,fun _ y hy=>?_⟩
   obtain ⟨k,hk,rfl⟩:=dh 0 hy
   exact hI k ω
theorem nf {l:List Int} (h:¬ 0 < (l.length:Int)):l = []:=List.eq_nil_of_length_eq_zero ω
set_option maxHeartbeats 1000000 in
theorem sB (l:Line):∃ e:Int,(e = 0 -> LineOk l)/\q0c 134 [l.av] (.int .i64 e):=by
 obtain ⟨k,cap,cls,ws,sl⟩:=l
 by_cases hk:1 <= k/\k <= 5
 ·by_cases hc:(1 <= cap/\cap <= 4000)/\1 <= cls/\cls <= 6
  ·rcases (ω:k = 1 \/ k = 2 \/ k = 3 \/ k = 4 \/ k = 5) with rfl|rfl|rfl|rfl|rfl
   ·refine opE func134 ntmps134 results134 ?_
    repeat' (first|refine' ah | fail)
    all_goals try first|exact ae ⟨_,rfl,fun h=>absurd h τ⟩
    all_goals try first|omega|(exfalso;omega)|(exfalso;dsimp only at *;omega)
    exact ae ⟨0,rfl,fun _=>⟨hc.1,hc.2,.inl ⟨.inl rfl,nf (by assumption),nf (by assumption)⟩⟩⟩
   ·refine opE func134 ntmps134 results134 ?_
    repeat' (first|refine' ah | fail)
    all_goals try first|exact ae ⟨_,rfl,fun h=>absurd h τ⟩
    all_goals try first|omega|(exfalso;omega)|(exfalso;dsimp only at *;omega)
    exact ae ⟨0,rfl,fun _=>⟨hc.1,hc.2,.inl ⟨.inr rfl,nf (by assumption),nf (by assumption)⟩⟩⟩
   ·by_cases hl:(ws.length:Int) = cls
    ·obtain ⟨b,hb0,p⟩:=jg ws ω 1 20
     rcases b with _ | _
     ·refine opE func134 ntmps134 results134 ?_
      repeat' (first|refine' ah|refine ab p ?_)
      all_goals try first|exact ae ⟨_,rfl,fun h=>absurd h τ⟩
      all_goals try first|omega|(exfalso;omega)|(exfalso;dsimp only at *;omega)
     ·refine opE func134 ntmps134 results134 ?_
      repeat' (first|refine' ah|refine ab p ?_)
      all_goals try first|exact ae ⟨_,rfl,fun h=>absurd h τ⟩
      all_goals try first|omega|(exfalso;omega)|(exfalso;dsimp only at *;omega)|exact absurd hl (by assumption)
      exact ae ⟨0,rfl,fun _=>⟨hc.1,hc.2,.inr (.inl ⟨rfl,hl.symm,hb0 rfl,nf (by assumption)⟩)⟩⟩
    ·refine opE func134 ntmps134 results134 ?_
     repeat' (first|(refine aq (fun hb=>?_) (fun hb=>absurd hb hl);conv=>whnf)|refine' ah | fail)
     all_goals try first|exact ae ⟨_,rfl,fun h=>absurd h τ⟩
     all_goals try first|omega|(exfalso;omega)|(exfalso;dsimp only at *;omega)
   ·by_cases hl:(ws.length:Int) = cls
    ·obtain ⟨b,hb0,p⟩:=jg ws ω 1 6000
     rcases b with _ | _
     ·refine opE func134 ntmps134 results134 ?_
      repeat' (first|refine' ah|refine ab p ?_)
      all_goals try first|exact ae ⟨_,rfl,fun h=>absurd h τ⟩
      all_goals try first|omega|(exfalso;omega)|(exfalso;dsimp only at *;omega)
     ·refine opE func134 ntmps134 results134 ?_
      repeat' (first|refine' ah|refine ab p ?_)
      all_goals try first|exact ae ⟨_,rfl,fun h=>absurd h τ⟩
      all_goals try first|omega|(exfalso;omega)|(exfalso;dsimp only at *;omega)|exact absurd hl (by assumption)
      exact ae ⟨0,rfl,fun _=>⟨hc.1,hc.2,.inr (.inr (.inl ⟨rfl,hl.symm,hb0 rfl,nf (by assumption)⟩))⟩⟩
    ·refine opE func134 ntmps134 results134 ?_
     repeat' (first|(refine aq (fun hb=>?_) (fun hb=>absurd hb hl);conv=>whnf)|refine' ah | fail)
     all_goals try first|exact ae ⟨_,rfl,fun h=>absurd h τ⟩
     all_goals try first|omega|(exfalso;omega)|(exfalso;dsimp only at *;omega)
   ·by_cases hs:1 <= sl.length/\sl.length <= 40
    ·obtain ⟨b,hb0,p⟩:=jg sl ω (-1) (cls - 1)
     rcases b with _ | _
     ·refine opE func134 ntmps134 results134 ?_
      repeat' (first|refine' ah|refine ab p ?_)
      all_goals try first|exact ae ⟨_,rfl,fun h=>absurd h τ⟩
      all_goals try first|omega|(exfalso;omega)|(exfalso;dsimp only at *;omega)|(dsimp only;unfold aj;omega)
     ·refine opE func134 ntmps134 results134 ?_
      repeat' (first|refine' ah|refine ab p ?_)
      all_goals try first|exact ae ⟨_,rfl,fun h=>absurd h τ⟩
      all_goals try first|omega|(exfalso;omega)|(exfalso;dsimp only at *;omega)|(dsimp only;unfold aj;omega)
      exact ae ⟨0,rfl,fun _=>⟨hc.1,hc.2,.inr (.inr (.inr ⟨rfl,nf (by assumption),hs.1,hs.2,hb0 rfl⟩))⟩⟩
    ·refine opE func134 ntmps134 results134 ?_
     repeat' (first|refine' ah | fail)
     all_goals try first|exact ae ⟨_,rfl,fun h=>absurd h τ⟩
     all_goals try first|omega|(exfalso;omega)|(exfalso;dsimp only at *;omega)
  ·refine opE func134 ntmps134 results134 ?_
   repeat' (first|refine' ah | fail)
   all_goals try first|exact ae ⟨_,rfl,fun h=>absurd h τ⟩
   all_goals try first|omega|(exfalso;omega)|(exfalso;dsimp only at *;omega)
 ·refine opE func134 ntmps134 results134 ?_
  repeat' (first|refine' ah | fail)
  all_goals try first|exact ae ⟨_,rfl,fun h=>absurd h τ⟩
  all_goals try first|omega|(exfalso;omega)|(exfalso;dsimp only at *;omega)
theorem Ci {a b:ByteArray} (h:¬ a = b):(a.toList == b.toList) = false:=by
 cases hb:(a.toList == b.toList) with
 | false=>rfl
 | true=>exact absurd (jv _ _ (eq_of_beq hb)) h
theorem qq {α:Type} {l:List α} (d:α) {j:Nat} {x:α} (hj:j <= l.length) (h:∀ i,i < j -> l.getD i d ≠ x):x ∉ l.take j:=fun hx=>by
 obtain ⟨i,hi,e⟩:=List.mem_iff_getElem.1 hx
 have h1:i < j:=by simp at hi;omega
 refine h i h1 ?_
 rw [ψ,β ω]
 rw [List.getElem_take] at e
 exact e
set_option maxHeartbeats 4000000 in
theorem ui (n:Net) (i:Nat) (hi:i < n.flows.length) (hfl:n.flows.length <= 10):∃ e:Int,(e = 0 -> qn (n.flows.map Flow.name) i/\oH n (n.flows.getD i default)/\zZ (n.flows.getD i default))/\q0c 135 [n.av,.int .i64 i] (.int .i64 e):=by
 obtain ⟨f,ef⟩:∃ f,f = n.flows.getD i default:=⟨_,rfl⟩
 have hfe:∀ j:Nat,j < n.flows.length -> (n.flows.map Flow.name).getD j .empty = (n.flows.getD j default).name:=fun j hj=>by simp [hj]
 have hfi:=hfe i hi
 rw [<- ef] at hfi ⊢
 obtain ⟨bw,hw,pw⟩:=ss f.name
 obtain ⟨bv,hv,pv⟩:=sA f.con
 rcases bw with _ | _
 ·refine opE func135 ntmps135 results135 ?_
  refine gvE ?_;conv=>whnf
  refine gvE ?_;conv=>whnf
  refine Side.mk ⟨ω,ω⟩ ?_;conv=>whnf
  refine ar [1,2,5] [2] [] [] [(5,some (.box f.cells))] ⟨⟨rfl,rfl⟩,?_,?_⟩ ?_
  ·skip
   all_goals ((refine' subP)<;>first| rw [ef];exact Γ|exact sq1)
  ·skip
   all_goals exact sq1
  conv=>whnf
  repeat' (first|refine' ah|refine ab pw ?_)
  all_goals try exact ariA
  exact ae ⟨_,rfl,fun h=>absurd h τ⟩
 ·refine opE func135 ntmps135 results135 ?_
  refine gvE ?_;conv=>whnf
  refine gvE ?_;conv=>whnf
  refine Side.mk ⟨ω,ω⟩ ?_;conv=>whnf
  refine ar [1,2,5] [2] [] [] [(5,some (.box f.cells))] ⟨⟨rfl,rfl⟩,?_,?_⟩ ?_
  ·skip
   all_goals ((refine' subP)<;>first| rw [ef];exact Γ|exact sq1)
  ·skip
   all_goals exact sq1
  conv=>whnf
  repeat' (first|refine' ah|refine ab pw ?_)
  all_goals try exact ariA
  refine ag (ι:={j:Nat // j <= i/\∀ k,k < j -> (n.flows.map Flow.name).getD k .empty ≠ f.name}) [1,2,5] [2,5] [] ⟨0,ω,ν⟩ (fun ⟨j,_⟩=>i - j) (fun ⟨j,_⟩=>[(6,.int .i64 j)]) (fun _=>[]) ?_ ?_
  ·exact ⟨⟨rfl,rfl⟩,sq1,sq1⟩
  ·rintro ⟨j,hj,hN⟩
   conv=>whnf
   by_cases hji:(j:Int) < i
   ·have hfj:=hfe j ω
    by_cases he:(n.flows.getD (j:Int).toNat default).name = f.name
    ·have hz:((n.flows.getD (j:Int).toNat default).name.toList == f.name.toList) = true:=by rw [he];exact beq_self_eq_true _
     repeat' (first|(refine aK (fun hb=>?_) (fun hb=>absurd hb (fun e=>Bool.noConfusion (hz.symm.trans e)));conv=>whnf)|(refine aa (fun hb=>?_) (fun hb=>absurd hji hb);conv=>whnf)|refine' ah | fail)
     all_goals try exact ariA
     exact ae ⟨_,rfl,fun h=>absurd h τ⟩
    ·have hz:=Ci he
     repeat' (first|(refine aK (fun hb=>absurd hb (fun e=>Bool.noConfusion (hz.symm.trans e))) (fun hb=>?_);conv=>whnf)|(refine aa (fun hb=>?_) (fun hb=>absurd hji hb);conv=>whnf)|(exact aI [] ⟨j + 1,ω,fun k hk=>(ζ k j).elim (hN k) fun h9=>by have e9:k = j:=ω;subst e9;rw [hfj];exact he⟩)|refine' ah | fail)
     all_goals try exact ariA
   ·have hnm:qn (n.flows.map Flow.name) i \/ False:=.inl ⟨by rw [hfi];exact hw rfl,by rw [hfi];exact qq .empty (by simp;omega) fun k hk=>hN k ω⟩
    have hnm:=hnm.resolve_right id
    by_cases hr0:(f.route.length:Int) = 0
    ·skip
     repeat' (first|(refine aa (fun hb=>?_) (fun hb=>absurd hr0 hb);conv=>whnf)|(refine aa (fun hb=>absurd hb hji) (fun hb=>?_);conv=>whnf)|refine' ah | fail)
     all_goals try exact ariA
     exact ae ⟨_,rfl,fun h=>absurd h τ⟩
    by_cases hr4:(f.route.length:Int) > 4
    ·skip
     repeat' (first|(refine aa (fun hb=>?_) (fun hb=>absurd hr4 hb);conv=>whnf)|(refine aa (fun hb=>absurd hb hr0) (fun hb=>?_);conv=>whnf)|(refine aa (fun hb=>absurd hb hji) (fun hb=>?_);conv=>whnf)|refine' ah | fail)
     all_goals try exact ariA
     exact ae ⟨_,rfl,fun h=>absurd h τ⟩
    repeat' (first|(refine aa (fun hb=>absurd hb hr4) (fun hb=>?_);conv=>whnf)|(refine aa (fun hb=>absurd hb hr0) (fun hb=>?_);conv=>whnf)|(refine aa (fun hb=>absurd hb hji) (fun hb=>?_);conv=>whnf)|refine' ah | fail)
    all_goals try exact ariA
    refine ag (ι:={j:Nat // j <= f.route.length/\∀ k,k < j -> HopP n f k}) [2,5] [2,5] [] ⟨0,ω,ν⟩ (fun ⟨j,_⟩=>f.route.length - j) (fun ⟨j,_⟩=>[(7,.int .i64 j)]) (fun _=>[]) ?_ ?_
    ·exact ⟨⟨rfl,rfl⟩,sq1,sq1⟩
    ·rintro ⟨q,hq,hH⟩
     conv=>whnf
     by_cases hql:(q:Int) < f.route.length
     ·obtain ⟨x,ex⟩:∃ x,x = f.route.getD q 0:=⟨_,rfl⟩
      have ex2:f.route.getD (q:Int).toNat 0 = x:=by rw [ex];rfl
      by_cases hx:0 <= x/\x < n.lines.length
      ·skip
       repeat' (first|(refine aa (fun hb=>?_) (fun hb=>absurd hql hb);conv=>whnf)|refine' ah | fail)
       all_goals try first|exact ariA|(rw [ex2] at *;exfalso;omega)
       refine ag (ι:={m:Nat // m <= q/\∀ k,k < m -> f.route.getD k 0 ≠ x}) [2,5,7,8] [2,5] [] ⟨0,ω,ν⟩ (fun ⟨m,_⟩=>q - m) (fun ⟨m,_⟩=>[(9,.int .i64 m)]) (fun _=>[]) ?_ ?_
       ·exact ⟨⟨rfl,rfl⟩,sq1,sq1⟩
       ·rintro ⟨m,hm,hM⟩
        conv=>whnf
        by_cases hmq:(m:Int) < q
        ·by_cases he:f.route.getD (m:Int).toNat 0 = f.route.getD (q:Int).toNat 0
         ·skip
          repeat' (first|(refine aa (fun hb=>?_) (fun hb=>absurd he hb);conv=>whnf)|(refine aa (fun hb=>?_) (fun hb=>absurd hmq hb);conv=>whnf)|refine' ah | fail)
          all_goals try exact ariA
          exact ae ⟨_,rfl,fun h=>absurd h τ⟩
         ·skip
          repeat' (first|(refine aa (fun hb=>absurd hb he) (fun hb=>?_);conv=>whnf)|(refine aa (fun hb=>?_) (fun hb=>absurd hmq hb);conv=>whnf)|(exact aI [] ⟨m + 1,ω,fun k hk=>(ζ k m).elim (hM k) fun h9=>by have e9:k = m:=ω;subst e9;rw [<- ex2];exact he⟩)|refine' ah | fail)
          all_goals try exact ariA
        ·have hnt:x ∉ f.route.take q:=qq 0 ω fun k hk=>hM k ω
         by_cases hcl:0 <= f.class_/\f.class_ < (n.lines.getD x.toNat default).classes
         ·skip
          repeat' (first|(refine aa (fun hb=>absurd hb hmq) (fun hb=>?_);conv=>whnf)|(exact aI [] ⟨q + 1,ω,fun k hk=>(ζ k q).elim (hH k) fun h9=>by have e9:k = q:=ω;subst e9;unfold HopP;rw [<- ex];exact ⟨hx,hnt,hcl⟩⟩)|refine' ah | fail)
          all_goals try first|exact ariA|(rw [ex2] at *;omega)|(rw [ex2] at *;exfalso;omega)
         ·skip
          repeat' (first|(refine aa (fun hb=>absurd hb hmq) (fun hb=>?_);conv=>whnf)|refine' ah | fail)
          all_goals try first|exact ariA|exact ae ⟨_,rfl,fun h=>absurd h τ⟩|(rw [ex2] at *;omega)|(rw [ex2] at *;exfalso;omega)
      ·skip
       repeat' (first|(refine aa (fun hb=>?_) (fun hb=>absurd hql hb);conv=>whnf)|refine' ah | fail)
       all_goals try first|exact ariA|exact ae ⟨_,rfl,fun h=>absurd h τ⟩|(rw [ex2] at *;exfalso;omega)
     ·have hrt:oH n f:=⟨ω,fun k hk=>hH k ω⟩
      rcases bv with _ | _
      ·skip
       repeat' (first|(refine aa (fun hb=>absurd hb hql) (fun hb=>?_);conv=>whnf)|refine' ah|refine ab pv ?_)
       all_goals try first|exact ariA|exact ae ⟨_,rfl,fun h=>absurd h τ⟩
      ·have hvl:=im (hv rfl)
       obtain ⟨bf,hf0,pf⟩:=qp f.con (hv rfl) pv rfl
       rcases bf with _ | _
       ·skip
        repeat' (first|(refine aa (fun hb=>absurd hb hql) (fun hb=>?_);conv=>whnf)|refine' ah|refine ab pv ?_|refine ab pf ?_)
        all_goals try first|exact ariA|exact ae ⟨_,rfl,fun h=>absurd h τ⟩
       ·skip
        repeat' (first|(refine aa (fun hb=>absurd hb hql) (fun hb=>?_);conv=>whnf)|refine' ah|refine ab pv ?_|refine ab pf ?_)
        all_goals try first|exact ariA|exact ae ⟨_,rfl,fun h=>absurd h τ⟩
        exact ae ⟨0,rfl,fun _=>⟨hnm,hrt,⟨ω,hv rfl,hb,hf0 rfl⟩⟩⟩
set_option maxHeartbeats 2000000 in
theorem kO (n:Net):∃ e:Int,(e = 0 -> NetOk n/\NamesOk n)/\q0c 75 [n.av] (.int .i64 e):=by
 by_cases hlim:(1 <= n.lines.length/\n.lines.length <= 8)/\n.flows.length <= 10/\n.names.length = n.lines.length
 ·obtain ⟨hl1,hl2,hl3⟩:=hlim
  refine opE func75 ntmps75 results75 ?_
  repeat' (first|refine' ah | fail)
  all_goals try exact ariB
  refine ag (ι:={i:Nat // i <= n.lines.length/\∀ k,k < i -> qn n.names k/\LineOk (n.lines.getD k default)}) [1] [1] [] ⟨0,ω,ν⟩ (fun ⟨i,_⟩=>n.lines.length - i) (fun ⟨i,_⟩=>[(3,.int .i64 i)]) (fun _=>[]) ?_ ?_
  ·exact ⟨⟨rfl,rfl⟩,sq1,sq1⟩
  ·rintro ⟨i,hi,hI⟩
   conv=>whnf
   by_cases hlt:(i:Int) < n.lines.length
   ·obtain ⟨b,hb0,p1⟩:=ss (n.names.getD (i:Int).toNat .empty)
    obtain ⟨e2,h2,p2⟩:=sB (n.lines.getD (i:Int).toNat default)
    rcases b with _ | _
    ·skip
     repeat' (first|(refine aa (fun hb=>?_) (fun hb=>absurd hlt hb);conv=>whnf)|refine' ah|refine ab p1 ?_)
     all_goals try exact ariA
     exact ae ⟨_,rfl,fun h=>absurd h τ⟩
    repeat' (first|(refine aa (fun hb=>?_) (fun hb=>absurd hlt hb);conv=>whnf)|refine' ah|refine ab p1 ?_)
    all_goals try exact ariA
    refine ag (ι:={m:Nat // m <= i/\∀ k,k < m -> n.names.getD k .empty ≠ n.names.getD i .empty}) [1,3] [1] [] ⟨0,ω,ν⟩ (fun ⟨m,_⟩=>i - m) (fun ⟨m,_⟩=>[(4,.int .i64 m)]) (fun _=>[]) ?_ ?_
    ·exact ⟨⟨rfl,rfl⟩,sq1,sq1⟩
    ·rintro ⟨m,hm,hM⟩
     conv=>whnf
     by_cases hmi:(m:Int) < i
     ·by_cases he:n.names.getD (m:Int).toNat .empty = n.names.getD (i:Int).toNat .empty
      ·have hz:((n.names.getD (m:Int).toNat .empty).toList == (n.names.getD (i:Int).toNat .empty).toList) = true:=by rw [he];exact beq_self_eq_true _
       repeat' (first|(refine aK (fun hb=>?_) (fun hb=>absurd hb (fun e=>Bool.noConfusion (hz.symm.trans e)));conv=>whnf)|(refine aa (fun hb=>?_) (fun hb=>absurd hmi hb);conv=>whnf)|refine' ah | fail)
       all_goals try exact ariA
       exact ae ⟨_,rfl,fun h=>absurd h τ⟩
      ·have hz:=Ci he
       repeat' (first|(refine aK (fun hb=>absurd hb (fun e=>Bool.noConfusion (hz.symm.trans e))) (fun hb=>?_);conv=>whnf)|(refine aa (fun hb=>?_) (fun hb=>absurd hmi hb);conv=>whnf)|(exact aI [] ⟨m + 1,ω,fun k hk=>(ζ k m).elim (hM k) fun h9=>by have e9:k = m:=ω;subst e9;exact he⟩)|refine' ah | fail)
       all_goals try exact ariA
     ·have hnm:qn n.names i:=⟨hb0 rfl,qq .empty ω fun k hk=>hM k ω⟩
      by_cases he2:e2 = 0
      ·subst he2
       repeat' (first|(refine aa (fun hb=>absurd hb hmi) (fun hb=>?_);conv=>whnf)|(exact aI [] ⟨i + 1,ω,fun k hk=>(ζ k i).elim (hI k) fun h9=>by have e9:k = i:=ω;subst e9;exact ⟨hnm,h2 rfl⟩⟩)|refine' ah|refine ab p2 ?_)
       all_goals try exact ariA
      ·skip
       repeat' (first|(refine aq (fun hb=>?_) (fun hb=>absurd hb he2);conv=>whnf)|(refine aa (fun hb=>absurd hb hmi) (fun hb=>?_);conv=>whnf)|refine' ah|refine ab p2 ?_)
       all_goals try exact ariA
       exact ae ⟨e2,rfl,fun h=>absurd h he2⟩
   ·skip
    repeat' (first|(refine aa (fun hb=>absurd hb hlt) (fun hb=>?_);conv=>whnf)|refine' ah | fail)
    all_goals try exact ariA
    refine ag (ι:={i:Nat // i <= n.flows.length/\∀ k,k < i -> qn (n.flows.map Flow.name) k/\oH n (n.flows.getD k default)/\zZ (n.flows.getD k default)}) [1] [1] [] ⟨0,ω,ν⟩ (fun ⟨i,_⟩=>n.flows.length - i) (fun ⟨i,_⟩=>[(6,.int .i64 i)]) (fun _=>[]) ?_ ?_
    ·exact ⟨⟨rfl,rfl⟩,sq1,sq1⟩
    ·rintro ⟨i,hi,hF⟩
     conv=>whnf
     by_cases hfi:(i:Int) < n.flows.length
     ·obtain ⟨e3,h3,p3⟩:=ui n i ω hl2
      by_cases he3:e3 = 0
      ·subst he3
       repeat' (first|(refine aa (fun hb=>?_) (fun hb=>absurd hfi hb);conv=>whnf)|(exact aI [] ⟨i + 1,ω,fun k hk=>(ζ k i).elim (hF k) fun h9=>by have e9:k = i:=ω;subst e9;exact h3 rfl⟩)|refine' ah|refine ab p3 ?_)
       all_goals try exact ariA
      ·skip
       repeat' (first|(refine aq (fun hb=>?_) (fun hb=>absurd hb he3);conv=>whnf)|(refine aa (fun hb=>?_) (fun hb=>absurd hfi hb);conv=>whnf)|refine' ah|refine ab p3 ?_)
       all_goals try exact ariA
       exact ae ⟨e3,rfl,fun h=>absurd h he3⟩
     ·skip
      repeat' (first|(refine aa (fun hb=>absurd hb hfi) (fun hb=>?_);conv=>whnf)|refine' ah | fail)
      all_goals try exact ariA
      exact ae ⟨0,rfl,fun _=>NetP.ok ⟨hl1,hl2,hl3,fun i hi=>hI i ω,fun i hi=>hF i ω⟩⟩
 ·refine opE func75 ntmps75 results75 ?_
  repeat' (first|refine' ah | fail)
  all_goals try first|exact ae ⟨_,rfl,fun h=>absurd h τ⟩
  all_goals exfalso;omega
def qr (n:Net):Prop:=NetOk n/\NamesOk n
def Full (n:Net) (d:List (List Int)):Prop:=qr n/\ShapeOk n d
theorem sC {n:Net} (h:¬ qr n):∃ e:Int,e ≠ 0/\q0c 78 [n.av] (.int .i64 e):=by
 obtain ⟨e,he,p⟩:=oI n
 exact ⟨e,fun h0=>h (he h0),p⟩
theorem sD {n:Net} (h:¬ qr n):∃ e:Int,e ≠ 0/\q0c 75 [n.av] (.int .i64 e):=by
 obtain ⟨e,he,p⟩:=kO n
 exact ⟨e,fun h0=>h (he h0),p⟩
def RowP (n:Net) (d:List (List Int)) (i:Nat):Prop:=((d.getD i []).length:Int) = (n.lines.getD i default).classes/\∀ c,c < (d.getD i []).length -> -1 <= (d.getD i []).getD c 0/\(d.getD i []).getD c 0 <= 400
theorem jQ {n:Net} {d:List (List Int)} (hl:d.length = n.lines.length) (h:∀ i,i < d.length -> RowP n d i):ShapeOk n d :=
 ⟨hl,fun i hi=>(h i ω).1,fun i c hi hc=>(h i ω).2 c hc⟩
set_option maxHeartbeats 2000000 in
theorem Ab (n:Net) (d:List (List Int)):∃ b:Bool,(b = true -> Full n d)/\q0c 120 [n.av,az d] (.bool b):=by
 obtain ⟨e,he,p0⟩:=oI n
 by_cases he0:e = 0
 ·subst he0
  have hfull:=he rfl
  have h:=hfull.1
  have hlen:=h.len
  have hcl:∀ j:Nat,j < n.lines.length -> 1 <= (n.lines.getD j default).classes/\(n.lines.getD j default).classes <= 6:=fun j hj=>(h.line _ (by simp [hj])).cls
  by_cases hdl:(d.length:Int) = n.lines.length
  ·refine opE func120 ntmps120 results120 ?_
   repeat' (first|(refine aq (fun hb=>absurd hdl hb) (fun hb=>?_);conv=>whnf)|refine' ah|refine ab p0 ?_)
   all_goals try exact ariB
   refine ag (ι:={j:Nat // j <= d.length/\∀ i,i < j -> RowP n d i}) [2,20,21] [2] [] ⟨0,π _,ν⟩ (fun ⟨j,_⟩=>d.length - j) (fun ⟨j,_⟩=>[(22,.int .i64 j)]) (fun _=>[]) ?_ ?_
   ·exact ⟨⟨rfl,rfl⟩,sq1,sq1⟩
   ·rintro ⟨j,hj,hI⟩
    conv=>whnf
    by_cases hjl:(j:Int) < d.length
    ·have h3 := hcl j ω
     obtain ⟨D,eD⟩:∃ D,D = d.getD j []:=⟨_,rfl⟩
     have eDn:d.getD (j:Int).toNat [] = D:=by rw [eD];rfl
     by_cases hrow:((d.getD (j:Int).toNat []).length:Int) = (n.lines.getD (j:Int).toNat default).classes
     ·have hrow2:(D.length:Int) = (n.lines.getD j default).classes:=by rw [<- eDn];exact hrow
      repeat' (first|(refine aq (fun hb=>absurd hrow hb) (fun hb=>?_);conv=>whnf)|(refine aa (fun hb=>?_) (fun hb=>absurd hjl hb);conv=>whnf)|refine' ah | fail)
      all_goals try first|exact ariA|(rw [eDn];unfold aj;omega)
      refine ag (ι:={c:Nat // c <= D.length/\∀ e:Nat,e < c -> -1 <= D.getD e 0/\D.getD e 0 <= 400}) [2,20,21,22] [2] [] ⟨0,π _,ν⟩ (fun ⟨c,_⟩=>D.length - c) (fun ⟨c,_⟩=>[(36,ints D),(37,.int .i64 D.length),(38,.int .i64 c)]) (fun _=>[]) ?_ ?_
      ·refine ⟨⟨rfl,rfl⟩,?_,?_⟩
       all_goals ((refine' subP)<;>first|exact Θ (by rw [eDn])|exact Ψ (by rw [eD];rfl)|exact sq1)
      ·rintro ⟨c,hc,hJ⟩
       conv=>whnf
       by_cases hcl2:(c:Int) < D.length
       ·obtain ⟨x,ex⟩:∃ x,x = D.getD c 0:=⟨_,rfl⟩
        have ex2:D.getD (c:Int).toNat 0 = x:=by rw [ex];rfl
        by_cases hx:-1 <= x/\x <= 400
        ·skip
         repeat' (first|(refine aa (fun hb=>?_) (fun hb=>absurd hcl2 hb);conv=>whnf)|(exact aI [] ⟨c + 1,ω,fun e he=>(ζ e c).elim (hJ e) fun h9=>by have e9:e = c:=ω;subst e9;rw [<- ex];exact hx⟩)|refine' ah | fail)
         all_goals try first|exact ariA|(rw [ex2] at *;exfalso;omega)
        ·skip
         repeat' (first|(refine aa (fun hb=>?_) (fun hb=>absurd hcl2 hb);conv=>whnf)|refine' ah | fail)
         all_goals try first|exact ariA|exact ae ⟨false,rfl,fun h9=>(by cases h9)⟩|(rw [ex2] at *;exfalso;omega)
       ·have ec:c = D.length:=ω
        subst ec
        repeat' (first|(refine aa (fun hb=>absurd hb hcl2) (fun hb=>?_);conv=>whnf)|(exact aI [] ⟨j + 1,ω,fun i hi=>(ζ i j).elim (hI i) fun h9=>by have e9:i = j:=ω;subst e9;unfold RowP;rw [<- eD];exact ⟨hrow2,hJ⟩⟩)|refine' ah | fail)
        all_goals try exact ariA
     ·skip
      repeat' (first|(refine aq (fun hb=>?_) (fun hb=>absurd hb hrow);conv=>whnf)|(refine aa (fun hb=>?_) (fun hb=>absurd hjl hb);conv=>whnf)|refine' ah | fail)
      all_goals try first|exact ariA|exact ae ⟨false,rfl,fun h9=>(by cases h9)⟩
    ·skip
     repeat' (first|(refine aa (fun hb=>absurd hb hjl) (fun hb=>?_);conv=>whnf)|refine' ah | fail)
     all_goals try exact ariA
     exact ae ⟨true,rfl,fun _=>⟨hfull,jQ ω fun i hi=>hI i ω⟩⟩
  ·refine opE func120 ntmps120 results120 ?_
   repeat' (first|(refine aq (fun hb=>?_) (fun hb=>absurd hb hdl);conv=>whnf)|refine' ah|refine ab p0 ?_)
   all_goals try first|omega|exact ae ⟨false,rfl,fun h9=>(by cases h9)⟩
   all_goals exact absurd rfl (by assumption)
 ·refine opE func120 ntmps120 results120 ?_
  repeat' (first|(refine aq (fun hb=>?_) (fun hb=>absurd hb he0);conv=>whnf)|refine' ah|refine ab p0 ?_)
  all_goals try first|omega|exact ae ⟨false,rfl,fun h9=>(by cases h9)⟩
set_option maxHeartbeats 2000000 in
theorem xg (n:Net) (d:List (List Int)):∃ b:Bool,(b = true -> Full n d)/\q0c 98 [n.av,az d] (.bool b):=by
 obtain ⟨e,he,p0⟩:=kO n
 by_cases he0:e = 0
 ·subst he0
  have hfull:=he rfl
  have h:=hfull.1
  have hlen:=h.len
  have hcl:∀ j:Nat,j < n.lines.length -> 1 <= (n.lines.getD j default).classes/\(n.lines.getD j default).classes <= 6:=fun j hj=>(h.line _ (by simp [hj])).cls
  by_cases hdl:(d.length:Int) = n.lines.length
  ·refine opE func98 ntmps98 results98 ?_
   repeat' (first|(refine aq (fun hb=>absurd hdl hb) (fun hb=>?_);conv=>whnf)|refine' ah|refine ab p0 ?_)
   all_goals try exact ariB
   refine ag (ι:={j:Nat // j <= d.length/\∀ i,i < j -> RowP n d i}) [1,2] [2] [] ⟨0,π _,ν⟩ (fun ⟨j,_⟩=>d.length - j) (fun ⟨j,_⟩=>[(5,.int .i64 j)]) (fun _=>[]) ?_ ?_
   ·exact ⟨⟨rfl,rfl⟩,sq1,sq1⟩
   ·rintro ⟨j,hj,hI⟩
    conv=>whnf
    by_cases hjl:(j:Int) < d.length
    ·have h3 := hcl j ω
     have er:(d.getD (j:Int).toNat []).length = (d.getD j []).length:=rfl
     by_cases hrow:((d.getD (j:Int).toNat []).length:Int) = (n.lines.getD (j:Int).toNat default).classes
     ·have hrow2:((d.getD j []).length:Int) = (n.lines.getD j default).classes:=hrow
      repeat' (first|(refine aq (fun hb=>absurd hrow hb) (fun hb=>?_);conv=>whnf)|(refine aa (fun hb=>?_) (fun hb=>absurd hjl hb);conv=>whnf)|refine' ah | fail)
      all_goals try exact ariA
      refine ag (ι:={c:Nat // c <= (d.getD j []).length/\∀ e:Nat,e < c -> -1 <= (d.getD j []).getD e 0/\(d.getD j []).getD e 0 <= 400}) [1,2,5] [2] [] ⟨0,π _,ν⟩ (fun ⟨c,_⟩=>(d.getD j []).length - c) (fun ⟨c,_⟩=>[(6,.int .i64 c)]) (fun _=>[]) ?_ ?_
      ·exact ⟨⟨rfl,rfl⟩,sq1,sq1⟩
      ·rintro ⟨c,hc,hJ⟩
       conv=>whnf
       by_cases hcl2:(c:Int) < (d.getD (j:Int).toNat []).length
       ·obtain ⟨x,ex⟩:∃ x,x = (d.getD j []).getD c 0:=⟨_,rfl⟩
        have ex2:(d.getD (j:Int).toNat []).getD (c:Int).toNat 0 = x:=by rw [ex];rfl
        by_cases hx:-1 <= x/\x <= 400
        ·skip
         repeat' (first|(refine aa (fun hb=>?_) (fun hb=>absurd hcl2 hb);conv=>whnf)|(exact aI [] ⟨c + 1,ω,fun e he=>(ζ e c).elim (hJ e) fun h9=>by have e9:e = c:=ω;subst e9;rw [<- ex];exact hx⟩)|refine' ah | fail)
         all_goals try first|exact ariA|(rw [ex2] at *;exfalso;omega)
        ·skip
         repeat' (first|(refine aa (fun hb=>?_) (fun hb=>absurd hcl2 hb);conv=>whnf)|refine' ah | fail)
         all_goals try first|exact ariA|exact ae ⟨false,rfl,fun h9=>(by cases h9)⟩|(rw [ex2] at *;exfalso;omega)
       ·skip
        repeat' (first|(refine aa (fun hb=>absurd hb hcl2) (fun hb=>?_);conv=>whnf)|(exact aI [] ⟨j + 1,ω,fun i hi=>(ζ i j).elim (hI i) fun h9=>by have e9:i = j:=ω;subst e9;exact ⟨hrow2,fun e he=>hJ e ω⟩⟩)|refine' ah | fail)
        all_goals try exact ariA
     ·skip
      repeat' (first|(refine aq (fun hb=>?_) (fun hb=>absurd hb hrow);conv=>whnf)|(refine aa (fun hb=>?_) (fun hb=>absurd hjl hb);conv=>whnf)|refine' ah | fail)
      all_goals try first|exact ariA|exact ae ⟨false,rfl,fun h9=>(by cases h9)⟩
    ·skip
     repeat' (first|(refine aa (fun hb=>absurd hb hjl) (fun hb=>?_);conv=>whnf)|refine' ah | fail)
     all_goals try exact ariA
     exact ae ⟨true,rfl,fun _=>⟨hfull,jQ ω fun i hi=>hI i ω⟩⟩
  ·refine opE func98 ntmps98 results98 ?_
   repeat' (first|(refine aq (fun hb=>?_) (fun hb=>absurd hb hdl);conv=>whnf)|refine' ah|refine ab p0 ?_)
   all_goals try first|omega|exact ae ⟨false,rfl,fun h9=>(by cases h9)⟩
   all_goals exact absurd rfl (by assumption)
 ·refine opE func98 ntmps98 results98 ?_
  repeat' (first|(refine aq (fun hb=>?_) (fun hb=>absurd hb he0);conv=>whnf)|refine' ah|refine ab p0 ?_)
  all_goals try first|omega|exact ae ⟨false,rfl,fun h9=>(by cases h9)⟩
theorem qt {n:Net} {d:List (List Int)} (h:¬ Full n d):q0c 120 [n.av,az d] (.bool false):=by
 obtain ⟨b,hb,p⟩:=Ab n d
 cases b with
 | false=>exact p
 | true=>exact absurd (hb rfl) h
theorem jR {n:Net} {d:List (List Int)} (h:¬ Full n d):q0c 98 [n.av,az d] (.bool false):=by
 obtain ⟨b,hb,p⟩:=xg n d
 cases b with
 | false=>exact p
 | true=>exact absurd (hb rfl) h
theorem CU {n:Net} {d:List (List Int)} (h:¬ Full n d):q0c 64 [n.av,az d] (.tup [.nils,.int .i64 6]):=by
 have p:=qt h
 refine opG func64 ntmps64 results64 fun w0 Im0 ρ0=>?_
 repeat' (first|refine' ak|refine ab p ?_)
 all_goals exact Φ
theorem BM {n:Net} {d:List (List Int)} (h:¬ Full n d):q0c 56 [n.av,az d] (.tup [.nils,.int .i64 6]):=by
 have p:=jR h
 refine opG func56 ntmps56 results56 fun w0 Im0 ρ0=>?_
 repeat' (first|refine' ak|refine ab p ?_)
 all_goals exact Φ
theorem Ac {n:Net} {d:List (List Int)} (h:¬ Full n d) (l c:Int):q0c 66 [n.av,az d,.int .i64 l,.int .i64 c] (.tup [.int .i64 0,.int .i64 6]):=by
 have p:=jR h
 refine opG func66 ntmps66 results66 fun w0 Im0 ρ0=>?_
 repeat' (first|refine' ak|refine ab p ?_)
 all_goals exact Φ
theorem BN {n:Net} {d:List (List Int)} (h:¬ Full n d) (l c:Int):q0c 67 [n.av,az d,.int .i64 l,.int .i64 c] (.tup [.int .i64 0,.int .i64 6]):=by
 have p:=jR h
 refine opG func67 ntmps67 results67 fun w0 Im0 ρ0=>?_
 repeat' (first|refine' ak|refine ab p ?_)
 all_goals exact Φ
theorem Ad {n:Net} {d:List (List Int)} (h:¬ Full n d) (l c:Int) (g:FuncId):q0c 121 [n.av,az d,.int .i64 l,.int .i64 c,.fn g []] (.tup [.agg [.bool false,.int .i64 0,.int .i64 0],.int .i64 6]):=by
 have p:=qt h
 refine opG func121 ntmps121 results121 fun w0 Im0 ρ0=>?_
 repeat' (first|refine' ak|refine ab p ?_)
 all_goals exact Φ
theorem BO {n:Net} {d:List (List Int)} (h:¬ Full n d) (l c:Int):q0c 61 [n.av,az d,.int .i64 l,.int .i64 c] (.tup [.int .i64 0,.int .i64 6]):=by
 refine opG func61 ntmps61 results61 fun w0 Im0 ρ0=>?_
 repeat' (first|refine' ak|refine ab ((Ad h l c _)) ?_)
 all_goals exact Φ
theorem CV {n:Net} {d:List (List Int)} (h:¬ Full n d) (l c:Int):q0c 62 [n.av,az d,.int .i64 l,.int .i64 c] (.tup [.int .i64 0,.int .i64 6]):=by
 refine opG func62 ntmps62 results62 fun w0 Im0 ρ0=>?_
 repeat' (first|refine' ak|refine ab ((Ad h l c _)) ?_)
 all_goals exact Φ
theorem end_no {n:Net} {d:List (List Int)} (h:¬ Full n d) (i:Int):q0c 59 [n.av,az d,.int .i64 i] (.tup [.int .i64 0,.bool false]):=by
 have p:=qt h
 refine opG func59 ntmps59 results59 fun w0 Im0 ρ0=>?_
 repeat' (first|refine' ak|refine ab p ?_)
 all_goals exact Φ
theorem CW {n:Net} {d:List (List Int)} (h:¬ Full n d) (i:Int):q0c 68 [n.av,az d,.int .i64 i] (.tup [.int .i64 0,.bool false]):=by
 have p:=jR h
 refine opG func68 ntmps68 results68 fun w0 Im0 ρ0=>?_
 repeat' (first|refine' ak|refine ab p ?_)
 all_goals exact Φ
theorem xh {n:Net} (h:¬ qr n):q0c 69 [n.av] (.tup [.nils,.int .i64 6]):=by
 obtain ⟨e,he,p⟩:=sC h
 refine opG func69 ntmps69 results69 fun w0 Im0 ρ0=>?_
 repeat' (first|(refine aq (fun hb=>?_) (fun hb=>absurd hb he);conv=>whnf)|refine' ak|refine ab p ?_)
 all_goals exact Φ
theorem uj {n:Net} (h:¬ qr n):q0c 25 [n.av] (.tup [.nils,.int .i64 6]):=by
 obtain ⟨e,he,p⟩:=sD h
 refine opG func25 ntmps25 results25 fun w0 Im0 ρ0=>?_
 repeat' (first|(refine aq (fun hb=>?_) (fun hb=>absurd hb he);conv=>whnf)|refine' ak|refine ab p ?_)
 all_goals exact Φ
theorem CX {n:Net} (h:¬ qr n):q0c 70 [n.av] .nils:=by
 obtain ⟨e,he,p⟩:=sC h
 refine opG func70 ntmps70 results70 fun w0 Im0 ρ0=>?_
 repeat' (first|(refine aq (fun hb=>?_) (fun hb=>absurd hb he);conv=>whnf)|refine' ak|refine ab p ?_)
 all_goals exact Φ
theorem BP {n:Net} (h:¬ qr n):q0c 20 [n.av] .nils:=by
 obtain ⟨e,he,p⟩:=sD h
 refine opG func20 ntmps20 results20 fun w0 Im0 ρ0=>?_
 repeat' (first|(refine aq (fun hb=>?_) (fun hb=>absurd hb he);conv=>whnf)|refine' ak|refine ab p ?_)
 all_goals exact Φ
theorem bh {α:Type} (enc:α -> List AV) (d:α) (l:List α) {k:Nat} (hk:k < l.length) (x:α) {t:List AV} (ht:t = enc x) (i:Nat):(bif Nat.beq i k then t else enc (l.getD i d)) = enc ((l.set k x).getD i d):=by
 by_cases e:i = k
 ·subst e
  rw [Nat.beq_refl,ht]
  simp [hk]
 ·rw [show Nat.beq i k = false by cases hb:Nat.beq i k with | false=>rfl | true=>exact absurd (Nat.eq_of_beq_eq_true hb) e]
  simp only [cond_false,ψ,List.getElem?_set_ne (show k ≠ i from fun h=>e h.symm)]
theorem n_at (s:Rd) (hs:s.ok) (k:Int) (h0:0 < k) (h1:k <= 4000000):∃ (x:Int) (s':Rd),s.n k = (x,s')/\(0 <= x/\x < k)/\s'.ok/\q0b 30 [.lptr 900 0,.int .i64 k] [(900,s.ob)] (.int .i64 x) [(900,s'.ob)]:=by
 obtain ⟨x,s',e⟩:∃ x s',s.n k = (x,s'):=⟨_,_,rfl⟩
 have p:=iI s hs k υ
 have o:=s.n_ok k hs
 have m:=mod_lt (x:=s.raw.1) h0
 have e2:mod s.raw.1 k = x:=congrArg Prod.fst e
 rw [e] at p o
 rw [e2] at m
 exact ⟨x,s',e,m,o,p⟩
theorem f7 (s:Rd) (hs:s.ok) (l:List Int) (h0:0 < l.length) (h1:l.length <= 2000):∃ (x:Int) (s':Rd),x ∈ l/\s'.ok/\q0b 85 [.lptr 900 0,ints l] [(900,s.ob)] (.int .i64 x) [(900,s'.ob)]:=by
 have p:=lO s hs l h0 h1
 have o:=s.n_ok l.length hs
 have m:=mod_lt (x:=s.raw.1) (n:=l.length) ω
 exact ⟨_,_,aH (by show (mod s.raw.1 l.length).toNat < _;omega),o,p⟩
theorem ly (s:Rd) (hs:s.ok) (lo hi:Int) (h1:-1000000 <= lo) (h2:lo <= hi) (h3:hi <= 1000000):∃ (x:Int) (s':Rd),(lo <= x/\x <= hi)/\s'.ok/\q0b 18 [.lptr 900 0,.int .i64 lo,.int .i64 hi] [(900,s.ob)] (.int .i64 x) [(900,s'.ob)]:=by
 have p:=cY s hs lo hi h1 h2 h3
 have o:=s.n_ok (hi - lo + 1) hs
 have m:=mod_lt (x:=s.raw.1) (n:=hi - lo + 1) ω
 exact ⟨_,_,⟨by show lo <= lo + mod s.raw.1 (hi - lo + 1);omega,by show lo + mod s.raw.1 (hi - lo + 1) <= hi;omega⟩,o,p⟩
theorem aR {pid:List Nat} {nt:Nat} {rs:List ResultVar} {α:Type} {g:α -> AV} {outs:α -> List (Nat × LObj)} {Q:α -> Prop} {B:St} (h:dF T B rs fun vs=>∃ x,AvLe (dP vs) (g x)/\fA B.o (outs x)/\Q x):FinX T pid nt rs g outs Q B:=by
 obtain ⟨vs,⟨x,h1,h4,h2⟩,h3⟩:=fF rs h
 exact ⟨x,h2,fun w0 Im0 ρ0=>⟨B,Ghost.rfl,h3 _ h1,h4⟩⟩
set_option maxHeartbeats 4000000 in
theorem CY (s:Rd) (hs:s.ok) (c:Curve) (hl:1 <= c.vals.length/\c.vals.length <= 400) (hv:∀ i,i < c.vals.length -> 0 <= c.vals.getD i 0/\c.vals.getD i 0 <= 4611686018427387904) :
  ∃ x:Curve × Rd,x.2.ok/\q0b 87 [.lptr 900 0,c.av] [(900,s.ob)] x.1.av [(900,x.2.ob)]:=by
 obtain ⟨k,s1,_,hk,o1,p1⟩:=n_at s hs c.vals.length ω ω
 obtain ⟨m,s2,_,hm,o2,p2⟩:=n_at s1 o1 6 ω ω
 have hK:k.toNat < c.vals.length:=ω
 have hvk:=hv k.toNat hK
 rcases (ω:m = 0 \/ m = 1 \/ m = 2 \/ m = 3 \/ m = 4 \/ m = 5) with rfl|rfl|rfl|rfl|rfl|rfl
 ·obtain ⟨v,s3,_,o3,p3⟩:=f7 s2 o2 [-1,0,1073741824,1073741825,4611686018427387904,4611686018427387905] η η
  refine opE func87 ntmps87 results87 ?_ (hcl:=⟨rfl,rfl,aE rfl⟩) (hco:=fun x=>⟨rfl,aE rfl,rfl⟩)
  repeat' (first|(refine ar [4] [900,4] [] [(5,.lptr 805 0)] [(805,some (.box [.osl 810 (c.vals.set k.toNat v).length,.int .i64 c.per,.int .i64 c.inc])),(810,some (.arr (c.vals.set k.toNat v).length 1 (fun i=>[.int .i64 ((c.vals.set k.toNat v).getD i 0)]) 3))] ⟨⟨rfl,rfl⟩,?_,?_⟩ ?_;(solve|((refine' subP)<;>first|exact ObLe.box (.cons (Ψ (congrArg (AV.osl 810) η)) (.cons Φ (.cons Φ .nil)))|exact q0a η fun i hi=>(bh encI 0 c.vals hK _ rfl i).trans (reL_id _).symm|exact sq1));(solve|((refine' subP)<;>first|exact ObLe.box (.cons (Ψ (congrArg (AV.osl 810) η)) (.cons Φ (.cons Φ .nil)))|exact q0a η fun i hi=>(bh encI 0 c.vals hK _ rfl i).trans (reL_id _).symm|exact sq1));(conv=>whnf);(refine a7 810 rfl rfl (fun _ _=>rfl) ?_ ?_ ?_;(solve | try refine' frzZ);(solve | try refine' frzZ));(conv=>whnf))|(refine ar [0,4] [900,4] [(810,10),(805,5)] [(5,.lptr 805 0)] [(805,some (.box [.osl 810 c.vals.length,.int .i64 c.per,.int .i64 c.inc])),(810,some (.arr c.vals.length 1 (fun i=>[.int .i64 (c.vals.getD i 0)]) 3))] ⟨⟨rfl,rfl⟩,?_,?_⟩ ?_;(solve|((refine' subP)<;>first|exact q0a η (fun i hi=>rfl)|exact ObLe.box (.cons (Ψ (congrArg (AV.osl 10) η)) (.cons Φ (.cons Φ .nil)))|exact sq1));(solve|((refine' subP)<;>first|exact q0a η (fun i hi=>rfl)|exact ObLe.box (.cons (Ψ (congrArg (AV.osl 10) η)) (.cons Φ (.cons Φ .nil)))|exact sq1));conv=>whnf)|refine' ah|refine a6 p1 ?_|refine a6 p2 ?_|(refine bt [.lptr 900 0] [] p3 rfl rfl rfl (ξ _) ?_ ?_ ?_;rotate_left;rotate_left;conv=>whnf))
  all_goals try first|omega|(exfalso;omega)|exact υ|exact ax (by repeat' (first|exact True.intro|rfl|refine And.intro ?_ ?_))|exact ⟨ω,bI ω (fun _ _=>rfl)⟩|exact bI ω (fun _ _=>rfl)|exact ⟨π _,bI ω (fun _ _=>rfl)⟩
  exact aL ⟨(⟨c.vals.set k.toNat v,c.per,c.inc⟩,s3),rfl,⟨rfl,trivial⟩,o3⟩
 ·obtain ⟨v,s3,_,o3,p3⟩:=f7 s2 o2 [-1,0,1,c.vals.length,c.vals.length + 1,121] η η
  refine opE func87 ntmps87 results87 ?_ (hcl:=⟨rfl,rfl,aE rfl⟩) (hco:=fun x=>⟨rfl,aE rfl,rfl⟩)
  repeat' (first|(refine ar [4] [900,4] [] [(5,.lptr 805 0)] [(805,some (.box [.osl 810 c.vals.length,.int .i64 v,.int .i64 c.inc])),(810,some (.arr c.vals.length 1 (fun i=>[.int .i64 (c.vals.getD i 0)]) 3))] ⟨⟨rfl,rfl⟩,?_,?_⟩ ?_;(solve|((refine' subP)<;>first|exact ObLe.box (.cons (Ψ (congrArg (AV.osl 810) η)) (.cons Φ (.cons Φ .nil)))|exact sq1));(solve|((refine' subP)<;>first|exact ObLe.box (.cons (Ψ (congrArg (AV.osl 810) η)) (.cons Φ (.cons Φ .nil)))|exact sq1));(conv=>whnf);(refine a7 810 rfl rfl (fun _ _=>rfl) ?_ ?_ ?_;(solve | try refine' frzZ);(solve | try refine' frzZ));(conv=>whnf))|(refine ar [0,4] [900,4] [(810,10),(805,5)] [(5,.lptr 805 0)] [(805,some (.box [.osl 810 c.vals.length,.int .i64 c.per,.int .i64 c.inc])),(810,some (.arr c.vals.length 1 (fun i=>[.int .i64 (c.vals.getD i 0)]) 3))] ⟨⟨rfl,rfl⟩,?_,?_⟩ ?_;(solve|((refine' subP)<;>first|exact q0a η (fun i hi=>rfl)|exact ObLe.box (.cons (Ψ (congrArg (AV.osl 10) η)) (.cons Φ (.cons Φ .nil)))|exact sq1));(solve|((refine' subP)<;>first|exact q0a η (fun i hi=>rfl)|exact ObLe.box (.cons (Ψ (congrArg (AV.osl 10) η)) (.cons Φ (.cons Φ .nil)))|exact sq1));conv=>whnf)|refine' ah|refine a6 p1 ?_|refine a6 p2 ?_|(refine bt [.lptr 900 0] [] p3 rfl rfl rfl (ξ _) ?_ ?_ ?_;rotate_left;rotate_left;conv=>whnf))
  all_goals try first|omega|(exfalso;omega)|exact υ|exact ax (by repeat' (first|exact True.intro|rfl|refine And.intro ?_ ?_))|exact ⟨ω,bI ω (fun _ _=>rfl)⟩|exact bI ω (fun _ _=>rfl)|exact ⟨π _,bI ω (fun _ _=>rfl)⟩
  exact aL ⟨(⟨c.vals,v,c.inc⟩,s3),rfl,⟨rfl,trivial⟩,o3⟩
 ·obtain ⟨v,s3,_,o3,p3⟩:=f7 s2 o2 [-1,0,1073741824,1073741825] η η
  refine opE func87 ntmps87 results87 ?_ (hcl:=⟨rfl,rfl,aE rfl⟩) (hco:=fun x=>⟨rfl,aE rfl,rfl⟩)
  repeat' (first|(refine ar [4] [900,4] [] [(5,.lptr 805 0)] [(805,some (.box [.osl 810 c.vals.length,.int .i64 c.per,.int .i64 v])),(810,some (.arr c.vals.length 1 (fun i=>[.int .i64 (c.vals.getD i 0)]) 3))] ⟨⟨rfl,rfl⟩,?_,?_⟩ ?_;(solve|((refine' subP)<;>first|exact ObLe.box (.cons (Ψ (congrArg (AV.osl 810) η)) (.cons Φ (.cons Φ .nil)))|exact sq1));(solve|((refine' subP)<;>first|exact ObLe.box (.cons (Ψ (congrArg (AV.osl 810) η)) (.cons Φ (.cons Φ .nil)))|exact sq1));(conv=>whnf);(refine a7 810 rfl rfl (fun _ _=>rfl) ?_ ?_ ?_;(solve | try refine' frzZ);(solve | try refine' frzZ));(conv=>whnf))|(refine ar [0,4] [900,4] [(810,10),(805,5)] [(5,.lptr 805 0)] [(805,some (.box [.osl 810 c.vals.length,.int .i64 c.per,.int .i64 c.inc])),(810,some (.arr c.vals.length 1 (fun i=>[.int .i64 (c.vals.getD i 0)]) 3))] ⟨⟨rfl,rfl⟩,?_,?_⟩ ?_;(solve|((refine' subP)<;>first|exact q0a η (fun i hi=>rfl)|exact ObLe.box (.cons (Ψ (congrArg (AV.osl 10) η)) (.cons Φ (.cons Φ .nil)))|exact sq1));(solve|((refine' subP)<;>first|exact q0a η (fun i hi=>rfl)|exact ObLe.box (.cons (Ψ (congrArg (AV.osl 10) η)) (.cons Φ (.cons Φ .nil)))|exact sq1));conv=>whnf)|refine' ah|refine a6 p1 ?_|refine a6 p2 ?_|(refine bt [.lptr 900 0] [] p3 rfl rfl rfl (ξ _) ?_ ?_ ?_;rotate_left;rotate_left;conv=>whnf))
  all_goals try first|omega|(exfalso;omega)|exact υ|exact ax (by repeat' (first|exact True.intro|rfl|refine And.intro ?_ ?_))|exact ⟨ω,bI ω (fun _ _=>rfl)⟩|exact bI ω (fun _ _=>rfl)|exact ⟨π _,bI ω (fun _ _=>rfl)⟩
  exact aL ⟨(⟨c.vals,c.per,v⟩,s3),rfl,⟨rfl,trivial⟩,o3⟩
 ·have hN:k.toNat = (c.vals.take k.toNat).length:=by simp;omega
  refine opE func87 ntmps87 results87 ?_ (hcl:=⟨rfl,rfl,aE rfl⟩) (hco:=fun x=>⟨rfl,aE rfl,rfl⟩)
  repeat' (first|(refine ar [0,4] [900,4] [(810,10),(805,5)] [(5,.lptr 805 0)] [(805,some (.box [.osl 810 c.vals.length,.int .i64 c.per,.int .i64 c.inc])),(810,some (.arr c.vals.length 1 (fun i=>[.int .i64 (c.vals.getD i 0)]) 3))] ⟨⟨rfl,rfl⟩,?_,?_⟩ ?_;(solve|((refine' subP)<;>first|exact q0a η (fun i hi=>rfl)|exact ObLe.box (.cons (Ψ (congrArg (AV.osl 10) η)) (.cons Φ (.cons Φ .nil)))|exact sq1));(solve|((refine' subP)<;>first|exact q0a η (fun i hi=>rfl)|exact ObLe.box (.cons (Ψ (congrArg (AV.osl 10) η)) (.cons Φ (.cons Φ .nil)))|exact sq1));conv=>whnf)|refine' ah|refine a6 p1 ?_|refine a6 p2 ?_)
  all_goals try first|omega|(exfalso;omega)|exact υ|exact ax (by repeat' (first|exact True.intro|rfl|refine And.intro ?_ ?_))|exact ⟨ω,bI ω (fun _ _=>rfl)⟩|exact bI ω (fun _ _=>rfl)|exact ⟨π _,bI ω (fun _ _=>rfl)⟩
  refine a8 [4] [900,4,810] [] [] [] ⟨⟨rfl,rfl⟩,?_,?_⟩ (am 810 rfl rfl (fun _ _=>rfl) ?_ ?_ ?_)
  ·skip
   all_goals exact sq1
  ·skip
   all_goals exact sq1
  ·repeat' (first|exact True.intro|exact ξ _|exact ⟨ξ _,rfl⟩|exact (ω:k.toNat <= c.vals.length)|refine And.intro ?_ ?_|refine fun _ _=>?_)
  ·repeat' (first|exact True.intro|exact ξ _|exact ⟨ξ _,rfl⟩|exact (ω:k.toNat <= c.vals.length)|refine And.intro ?_ ?_|refine fun _ _=>?_)
  exact aR ⟨(⟨c.vals.take k.toNat,c.per,c.inc⟩,s2),AvLe.agg (.cons (Ξ hN fun i hi=>by simp [hi]) (.cons Φ (.cons Φ .nil))),⟨rfl,trivial⟩,o2⟩
 ·obtain ⟨v,s3,_,hv3,o3,p3⟩:=n_at s2 o2 5 ω ω
  refine opE func87 ntmps87 results87 ?_ (hcl:=⟨rfl,rfl,aE rfl⟩) (hco:=fun x=>⟨rfl,aE rfl,rfl⟩)
  repeat' (first|(refine ar [4] [900,4] [] [(5,.lptr 805 0)] [(805,some (.box [.osl 810 (c.vals.set k.toNat (c.vals.getD k.toNat 0 + (v - 2))).length,.int .i64 c.per,.int .i64 c.inc])),(810,some (.arr (c.vals.set k.toNat (c.vals.getD k.toNat 0 + (v - 2))).length 1 (fun i=>[.int .i64 ((c.vals.set k.toNat (c.vals.getD k.toNat 0 + (v - 2))).getD i 0)]) 3))] ⟨⟨rfl,rfl⟩,?_,?_⟩ ?_;(solve|((refine' subP)<;>first|exact ObLe.box (.cons (Ψ (congrArg (AV.osl 810) η)) (.cons Φ (.cons Φ .nil)))|exact q0a η fun i hi=>(bh encI 0 c.vals hK _ rfl i).trans (reL_id _).symm|exact sq1));(solve|((refine' subP)<;>first|exact ObLe.box (.cons (Ψ (congrArg (AV.osl 810) η)) (.cons Φ (.cons Φ .nil)))|exact q0a η fun i hi=>(bh encI 0 c.vals hK _ rfl i).trans (reL_id _).symm|exact sq1));(conv=>whnf);(refine a7 810 rfl rfl (fun _ _=>rfl) ?_ ?_ ?_;(solve | try refine' frzZ);(solve | try refine' frzZ));(conv=>whnf))|(refine ar [0,4] [900,4] [(810,10),(805,5)] [(5,.lptr 805 0)] [(805,some (.box [.osl 810 c.vals.length,.int .i64 c.per,.int .i64 c.inc])),(810,some (.arr c.vals.length 1 (fun i=>[.int .i64 (c.vals.getD i 0)]) 3))] ⟨⟨rfl,rfl⟩,?_,?_⟩ ?_;(solve|((refine' subP)<;>first|exact q0a η (fun i hi=>rfl)|exact ObLe.box (.cons (Ψ (congrArg (AV.osl 10) η)) (.cons Φ (.cons Φ .nil)))|exact sq1));(solve|((refine' subP)<;>first|exact q0a η (fun i hi=>rfl)|exact ObLe.box (.cons (Ψ (congrArg (AV.osl 10) η)) (.cons Φ (.cons Φ .nil)))|exact sq1));conv=>whnf)|refine' ah|refine a6 p1 ?_|refine a6 p2 ?_|refine a6 p3 ?_)
  all_goals try first|omega|(exfalso;omega)|exact υ|exact ax (by repeat' (first|exact True.intro|rfl|refine And.intro ?_ ?_))|exact ⟨ω,bI ω (fun _ _=>rfl)⟩|exact bI ω (fun _ _=>rfl)|exact ⟨π _,bI ω (fun _ _=>rfl)⟩
  exact aL ⟨(⟨c.vals.set k.toNat (c.vals.getD k.toNat 0 + (v - 2)),c.per,c.inc⟩,s3),rfl,⟨rfl,trivial⟩,o3⟩
 ·skip
  refine opE func87 ntmps87 results87 ?_ (hcl:=⟨rfl,rfl,aE rfl⟩) (hco:=fun x=>⟨rfl,aE rfl,rfl⟩)
  repeat' (first|(refine ar [0,4] [900,4] [(810,10),(805,5)] [(5,.lptr 805 0)] [(805,some (.box [.osl 810 c.vals.length,.int .i64 c.per,.int .i64 c.inc])),(810,some (.arr c.vals.length 1 (fun i=>[.int .i64 (c.vals.getD i 0)]) 3))] ⟨⟨rfl,rfl⟩,?_,?_⟩ ?_;(solve|((refine' subP)<;>first|exact q0a η (fun i hi=>rfl)|exact ObLe.box (.cons (Ψ (congrArg (AV.osl 10) η)) (.cons Φ (.cons Φ .nil)))|exact sq1));(solve|((refine' subP)<;>first|exact q0a η (fun i hi=>rfl)|exact ObLe.box (.cons (Ψ (congrArg (AV.osl 10) η)) (.cons Φ (.cons Φ .nil)))|exact sq1));conv=>whnf)|refine' ah|refine a6 p1 ?_|refine a6 p2 ?_)
  all_goals try first|omega|(exfalso;omega)|exact υ|exact ax (by repeat' (first|exact True.intro|rfl|refine And.intro ?_ ?_))|exact ⟨ω,bI ω (fun _ _=>rfl)⟩|exact bI ω (fun _ _=>rfl)|exact ⟨π _,bI ω (fun _ _=>rfl)⟩
  refine ag (ι:={p:List Int × Rd // p.2.ok/\1 <= p.1.length/\p.1.length <= 401}) [0,4,5] [4] [] ⟨(c.vals,s2),o2,hl.1,κ⟩ (fun ⟨(l,_),_⟩=>500 - l.length) (fun _=>[]) (fun ⟨(l,r),_⟩=>[(805,some (.box [.osl 810 l.length,.int .i64 c.per,.int .i64 c.inc])),(810,some (.arr l.length 1 (fun i=>[.int .i64 (l.getD i 0)]) 3)),(900,some r.ob)]) ?_ ?_
  ·exact ⟨⟨rfl,rfl⟩,sq1,sq1⟩
  ·rintro ⟨⟨l,r⟩,hr,hl1,hl2⟩
   conv=>whnf
   dsimp only at hr hl1 hl2
   obtain ⟨y,r2,_,hy,o3,p3⟩:=n_at r hr 2 ω ω
   have hidx:((l.length:Int) - 1).toNat < l.length:=ω
   obtain ⟨l',el⟩:∃ l',l' = l ++ [l.getD ((l.length:Int) - 1).toNat 0]:=⟨_,rfl⟩
   have hl':l'.length = l.length + 1:=by rw [el];simp
   by_cases hlt:(l.length:Int) < 400 + y
   ·skip
    repeat' (first|(refine aa (fun hb=>?_) (fun hb=>absurd hlt hb);conv=>whnf)|refine' ah|refine a6 p3 ?_)
    all_goals try first|omega|(exfalso;omega)|exact υ|exact ⟨ω,bI ω (fun _ _=>rfl)⟩|exact aO ω rfl|exact ⟨ξ _,aO ω rfl⟩
    refine aN [(810,46)] ⟨(l',r2),o3,κ,κ⟩ ⟨⟨rfl,rfl⟩,?_,?_⟩ κ
    ·skip
     all_goals ((refine' subP)<;>first|exact q0a hl'.symm (fun i hi=>(ba encI 0 l (l.getD ((l.length:Int) - 1).toNat 0) rfl i hi _ (fun e=>by rw [e,Nat.sub_self];rfl)).trans ((congrArg (fun z=>eget encI 0 z i) el.symm).trans (reL_id _).symm))|exact ObLe.box (.cons (Ψ (congrArg (AV.osl 46) hl'.symm)) (.cons Φ (.cons Φ .nil)))|exact sq1)
    ·skip
     all_goals exact sq1
   ·skip
    repeat' (first|(refine aa (fun hb=>absurd hb hlt) (fun hb=>?_);conv=>whnf)|refine' ah|refine a6 p3 ?_)
    all_goals try exact ariB
    refine a8 [4] [900,4,810] [] [] [] ⟨⟨rfl,rfl⟩,?_,?_⟩ (am 810 rfl rfl (fun _ _=>rfl) ?_ ?_ ?_)
    ·skip
     all_goals exact sq1
    ·skip
     all_goals exact sq1
    ·all_goals try refine' frzZ
    ·all_goals try refine' frzZ
    exact aL ⟨(⟨l,c.per,c.inc⟩,r2),rfl,⟨rfl,trivial⟩,o3⟩
end Go.Nc
