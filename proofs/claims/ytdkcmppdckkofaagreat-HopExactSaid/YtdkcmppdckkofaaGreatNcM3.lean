/- Append and make. -/
import Derived.Test.YtdkcmppdckkofaaGreatNcM2
namespace Go.Nc
section
variable {P:Program}
theorem nr {w:World} {t e:Nat} (ht:P.underlying t = some (.slice e)) {te:TI} (hte:TiOk P e te) (ty:TypeId) (base:Option Nat) (n cap:Nat) (cur:Array Value)
  (hd:(base = none/\n = 0/\cap = 0) \/ ∃ g,base = some g/\w.heap[g]? = some (.cells cur e (0,0))/\n <= cap/\cap <= maxLen/\cur.size = cap * te.size)
  (sv:Value) (m:Nat) (news:List Value) (hl:news.length = m * te.size) (hs:(sv = .slice none 0 0/\m = 0) \/ ∃ a c,sv = .slice (some a) m c/\∀ j u,news[j]? = some u -> w.cell? (a.add j) = some u)
  (h1:∀ u ∈ news,u.oneCell' = true) (hb:(n + m) * te.bytes <= 140737488355328) (hm:n + m <= dL) :
  ∃ base' cap' w',(Builtin.append_ #[t,t] ty #[.slice (base.map fun b=>⟨b,0,none⟩) n cap,sv]).run P w = .ok (.slice (base'.map fun b=>⟨b,0,none⟩) (n + m) cap') w' /\
   ((base' = none/\n + m = 0/\cap' = 0) \/ ∃ (g':Nat) (cur':Array Value),base' = some g'/\w'.heap[g']? = some (.cells cur' e (0,0))/\n + m <= cap'/\cap' <= maxLen/\cur'.size = cap' * te.size /\
    (∀ j,j < n * te.size -> cur'[j]? = cur[j]?)/\(∀ j,j < m * te.size -> cur'[n * te.size + j]? = news[j]?)/\(base = some g' \/ g' = w.heap.size)) /\
   w'.os = w.os/\w'.tape = w.tape/\w'.output = w.output/\w.heap.size <= w'.heap.size/\∀ b,b < w.heap.size -> base ≠ some b -> w'.heap[b]? = w.heap[b]?:=by
 obtain ⟨i,z,hi,hsz,hby,hz,hzc,_⟩:=hte.info
 have hml:n + m <= maxLen:=by simp only [dL,maxLen] at hm ⊢;omega
 have h63:((n + m:Nat):Int) <= 9223372036854775807:=by simp only [dL] at hm;omega
 rw [<- hsz] at hl
 rw [<- hby] at hb
 have hzsz:z.cells.size = i.size:=by
  have:=congrArg List.length hzc
  rw [List.length_map,hte.zlen] at this
  rw [hsz];simpa using this
 have hadd:(n + m) * i.size = n * i.size + m * i.size:=Nat.add_mul _ _ _
 rcases hd with ⟨rfl,rfl,rfl⟩ | ⟨g,rfl,hg,hnc,hcm,hcs⟩
 ·-- a nil slice
  simp only [Nat.zero_add] at *
  have dry:m = 0 -> ∃ base' cap' w',(Builtin.append_ #[t,t] ty #[.slice ((none:Option Nat).map fun b=>⟨b,0,none⟩) 0 0,sv]).run P w = .ok (.slice (base'.map fun b=>⟨b,0,none⟩) m cap') w' /\
    ((base' = none/\m = 0/\cap' = 0) \/ ∃ g' cur',base' = some g'/\w'.heap[g']? = some (.cells cur' e (0,0))/\m <= cap'/\cap' <= maxLen/\cur'.size = cap' * te.size /\
     (∀ j,j < 0 * te.size -> cur'[j]? = cur[j]?)/\(∀ j,j < m * te.size -> cur'[0 * te.size + j]? = news[j]?)/\(none = some g' \/ g' = w.heap.size)) /\
    w'.os = w.os/\w'.tape = w.tape/\w'.output = w.output/\w.heap.size <= w'.heap.size/\∀ b,b < w.heap.size -> none ≠ some b -> w'.heap[b]? = w.heap[b]?:=by
   intro hm0
   subst hm0
   refine ⟨none,0,w,?_,.inl ⟨rfl,rfl,rfl⟩,rfl,rfl,rfl,ξ _,fun _ _ _=>rfl⟩
   have hn0:news = []:=List.eq_nil_of_length_eq_zero (by simpa using hl)
   rcases hs with ⟨rfl,_⟩ | ⟨a,c,rfl,_⟩
   ·simp [Builtin.append_,run_underlying ht,sizeOf,typeInfo,hi,Builtin.lenOf,Builtin.firstCells]
   ·simp [Builtin.append_,run_underlying ht,sizeOf,typeInfo,hi,Builtin.lenOf,Builtin.firstCells,loadCells,loadCellsFrom]
  rcases hs with ⟨rfl,hm0⟩ | ⟨a,c,rfl,hnews⟩
  ·exact dry hm0
  ·by_cases hm0:m = 0
   ·exact dry hm0
   ·have hr:=run_append_nil (P:=P) w t ty e i z ht hi hz a m c news hl hnews ω h63 ω
    have hge:=grownCap_ge w m 0 e
    refine ⟨some w.heap.size,grownCap w m 0 e,_,hr,.inr ⟨w.heap.size,_,rfl,heap_alloc_new w.drew _,hge,grownCap_le_maxLen w m 0 e hml,?_,fun j hj=>by simp at hj,fun j hj=>?_,.inr rfl⟩,rfl,rfl,rfl,by simp,fun b hb _=>heap_alloc_old w.drew _ b hb⟩
    ·rw [Array.size_append,size_zeroCells,hzsz,List.size_toArray,hl,<- Nat.add_mul,hsz]
     congr 1;omega
    ·simp only [Nat.zero_mul,Nat.zero_add]
     rw [Array.getElem?_append_left (by simp;rw [hl,hsz];exact hj)]
     simp
 ·-- an array of its own
  have keep:m = 0 -> ∃ base' cap' w',(Builtin.append_ #[t,t] ty #[.slice ((some g).map fun b=>⟨b,0,none⟩) n cap,sv]).run P w = .ok (.slice (base'.map fun b=>⟨b,0,none⟩) (n + m) cap') w' /\
    ((base' = none/\n + m = 0/\cap' = 0) \/ ∃ (g':Nat) (cur':Array Value),base' = some g'/\w'.heap[g']? = some (.cells cur' e (0,0))/\n + m <= cap'/\cap' <= maxLen/\cur'.size = cap' * te.size /\
     (∀ j,j < n * te.size -> cur'[j]? = cur[j]?)/\(∀ j,j < m * te.size -> cur'[n * te.size + j]? = news[j]?)/\(some g = some g' \/ g' = w.heap.size)) /\
    w'.os = w.os/\w'.tape = w.tape/\w'.output = w.output/\w.heap.size <= w'.heap.size/\∀ b,b < w.heap.size -> some g ≠ some b -> w'.heap[b]? = w.heap[b]?:=by
   intro hm0
   subst hm0
   refine ⟨some g,cap,w,?_,.inr ⟨g,cur,rfl,hg,hnc,hcm,hcs,fun _ _=>rfl,fun j hj=>by simp at hj,.inl rfl⟩,rfl,rfl,rfl,ξ _,fun _ _ _=>rfl⟩
   rcases hs with ⟨rfl,_⟩ | ⟨a,c,rfl,hnews⟩
   ·simp [Builtin.append_,run_underlying ht,sizeOf,typeInfo,hi,Builtin.lenOf,Builtin.firstCells,hnc,storeCells]
   ·simp [Builtin.append_,run_underlying ht,sizeOf,typeInfo,hi,Builtin.lenOf,Builtin.firstCells,loadCells,loadCellsFrom,hnc,storeCells]
  rcases hs with ⟨rfl,hm0⟩ | ⟨a,c,rfl,hnews⟩
  ·exact keep hm0
  ·by_cases hroom:n + m <= cap
   ·have hle:(n + m) * i.size <= cap * i.size:=Nat.mul_le_mul_right _ hroom
    have hfit:n * i.size + news.length <= cur.size:=by rw [hcs,<- hsz];omega
    have hr:=run_append_room (P:=P) w t ty e i ht hi g n cap cur hg a m c news hl hnews h1 hroom hfit
    have e1:(cur.toList.take (n * i.size) ++ news ++ cur.toList.drop (n * i.size + news.length)).toArray = splV (n * i.size) news cur:=rfl
    rw [e1] at hr
    refine ⟨some g,cap,_,hr,.inr ⟨g,_,rfl,d6 w g cur _ e (0,0) hg,hroom,hcm,by rw [gI hfit];exact hcs,fun j hj=>?_,fun j hj=>?_,.inl rfl⟩,rfl,rfl,rfl,by simp,fun b _ hne=>de w g b _ (fun e=>hne (by rw [e]))⟩
    ·rw [dE hfit,if_neg (by rw [hsz];omega)]
    ·have hl':news.length = m * te.size:=by rw [<- hsz];exact hl
     rw [dE hfit,hsz,if_pos ⟨ω,ω⟩]
     congr 1;omega
   ·have hgr:=growslice_fits (need:=n + m) (old:=cap) (bytes:=i.bytes) ω hb
    have hr:=run_append_grow (P:=P) w t ty e i z ht hi hz ⟨g,0,none⟩ n cap (cur.toList.take (n * i.size)) (by
      have hle:n * i.size <= cap * i.size:=Nat.mul_le_mul_right _ hnc
      simp;rw [hcs,<- hsz];omega) (fun j v hv=>by
      rw [Addr.add_lit,cell_of_row w g _ cur e (0,0) hg]
      rw [List.getElem?_take] at hv
      split at hv
      ·simpa using hv
      ·cases hv) a m c news hl hnews ω h63 hgr
    have hge:=grownCap_ge w (n + m) cap e
    have hlen:(cur.toList.take (n * i.size)).length = n * i.size:=by
     have hle:n * i.size <= cap * i.size:=Nat.mul_le_mul_right _ hnc
     simp;rw [hcs,<- hsz];omega
    refine ⟨some w.heap.size,grownCap w (n + m) cap e,_,hr,.inr ⟨w.heap.size,_,rfl,heap_alloc_new w.drew _,hge,grownCap_le_maxLen w (n + m) cap e hml,?_,fun j hj=>?_,fun j hj=>?_,.inr rfl⟩,rfl,rfl,rfl,by simp,fun b hb _=>heap_alloc_old w.drew _ b hb⟩
    ·rw [Array.size_append,Array.size_append,size_zeroCells,hzsz,List.size_toArray,List.size_toArray,hlen,hl,<- Nat.add_mul,<- Nat.add_mul,hsz]
     congr 1;omega
    ·rw [Array.append_assoc,Array.getElem?_append_left (by rw [List.size_toArray,hlen,hsz];exact hj)]
     rw [List.getElem?_toArray,List.getElem?_take,if_pos (by rw [hsz];exact hj)]
     simp
    ·rw [Array.getElem?_append_left (by rw [Array.size_append,List.size_toArray,List.size_toArray,hlen,hl,hsz];omega)]
     rw [Array.getElem?_append_right (by rw [List.size_toArray,hlen,hsz];omega)]
     rw [List.size_toArray,hlen,hsz,Nat.add_sub_cancel_left]
     simp
theorem ns {w:World} {t e:Nat} (ht:P.underlying t = some (.slice e)) {te:TI} (hte:TiOk P e te) (ty:TypeId) (p:Option Addr) (cur:Array Value)
  (sv:Value) (m:Nat) (news:List Value) (hl:news.length = m * te.size) (hs:(sv = .slice none 0 0/\m = 0) \/ ∃ a c,sv = .slice (some a) m c/\∀ j u,news[j]? = some u -> w.cell? (a.add j) = some u)
  (hb:m * te.bytes <= 140737488355328) (hm:m <= dL) (hpos:0 < m) :
  ∃ base' cap' w',(Builtin.append_ #[t,t] ty #[.slice p 0 0,sv]).run P w = .ok (.slice (base'.map fun b=>⟨b,0,none⟩) (0 + m) cap') w' /\
   ((base' = none/\0 + m = 0/\cap' = 0) \/ ∃ g' cur',base' = some g'/\w'.heap[g']? = some (.cells cur' e (0,0))/\0 + m <= cap'/\cap' <= maxLen/\cur'.size = cap' * te.size /\
    (∀ j,j < 0 * te.size -> cur'[j]? = cur[j]?)/\(∀ j,j < m * te.size -> cur'[0 * te.size + j]? = news[j]?)/\((none:Option Nat) = some g' \/ g' = w.heap.size)) /\
   w'.os = w.os/\w'.tape = w.tape/\w'.output = w.output/\w.heap.size <= w'.heap.size/\∀ b,b < w.heap.size -> (none:Option Nat) ≠ some b -> w'.heap[b]? = w.heap[b]?:=by
 obtain ⟨i,z,hi,hsz,hby,hz,hzc,_⟩:=hte.info
 have hml:m <= maxLen:=by simp only [dL,maxLen] at hm ⊢;omega
 have h63:((m:Nat):Int) <= 9223372036854775807:=by simp only [dL] at hm;omega
 rw [<- hsz] at hl
 rw [<- hby] at hb
 have hzsz:z.cells.size = i.size:=by
  have:=congrArg List.length hzc
  rw [List.length_map,hte.zlen] at this
  rw [hsz];simpa using this
 simp only [Nat.zero_add,Nat.zero_mul]
 rcases hs with ⟨rfl,hm0⟩ | ⟨a,c,rfl,hnews⟩
 ·omega
 ·have hr:(Builtin.append_ #[t,t] ty #[.slice p 0 0,.slice (some a) m c]).run P w = .ok (.slice (some ⟨w.heap.size,0,none⟩) m (grownCap w m 0 e)) (w.drew.alloc (.cells (news.toArray ++ Builtin.zeroCells z.cells (grownCap w m 0 e - m)) e)):=by
   cases p with
   | none=>exact run_append_nil (P:=P) w t ty e i z ht hi hz a m c news hl hnews ω h63 ω
   | some q=>
    have hgr:=growslice_fits (need:=0 + m) (old:=0) (bytes:=i.bytes) ω (by rw [Nat.zero_add];exact hb)
    have:=run_append_grow (P:=P) w t ty e i z ht hi hz q 0 0 [] η (fun j v hv=>by simp at hv) a m c news hl hnews ω (by rw [Nat.zero_add];exact h63) hgr
    simpa using this
  have hge:=grownCap_ge w m 0 e
  refine ⟨some w.heap.size,grownCap w m 0 e,_,hr,.inr ⟨w.heap.size,_,rfl,heap_alloc_new w.drew _,hge,grownCap_le_maxLen w m 0 e hml,?_,fun j hj=>ω,fun j hj=>?_,.inr rfl⟩,rfl,rfl,rfl,by simp,fun b hb _=>heap_alloc_old w.drew _ b hb⟩
  ·rw [Array.size_append,size_zeroCells,hzsz,List.size_toArray,hl,<- Nat.add_mul,hsz]
   congr 1;omega
  ·rw [Array.getElem?_append_left (by simp;rw [hl,hsz];exact hj)]
   simp
theorem nu {w:World} {t e:Nat} (ht:P.underlying t = some (.slice e)) {te:TI} (hte:TiOk P e te) (ty:TypeId) (q:Addr) (n:Nat) (olds:List Value) (hlo:olds.length = n * te.size) (holds:∀ j v,olds[j]? = some v -> w.cell? (q.add j) = some v)
  (sv:Value) (m:Nat) (news:List Value) (hl:news.length = m * te.size) (hs:(sv = .slice none 0 0/\m = 0) \/ ∃ a c,sv = .slice (some a) m c/\∀ j u,news[j]? = some u -> w.cell? (a.add j) = some u)
  (hb:(n + m) * te.bytes <= 140737488355328) (hm:n + m <= dL) (hpos:0 < m) :
  ∃ base' cap' w',(Builtin.append_ #[t,t] ty #[.slice (some q) n n,sv]).run P w = .ok (.slice (base'.map fun b=>⟨b,0,none⟩) (n + m) cap') w' /\
   ((base' = none/\n + m = 0/\cap' = 0) \/ ∃ (g':Nat) (cur':Array Value),base' = some g'/\w'.heap[g']? = some (.cells cur' e (0,0))/\n + m <= cap'/\cap' <= maxLen/\cur'.size = cap' * te.size /\
    (∀ j,j < n * te.size -> cur'[j]? = olds.toArray[j]?)/\(∀ j,j < m * te.size -> cur'[n * te.size + j]? = news[j]?)/\((none:Option Nat) = some g' \/ g' = w.heap.size)) /\
   w'.os = w.os/\w'.tape = w.tape/\w'.output = w.output/\w.heap.size <= w'.heap.size/\∀ b,b < w.heap.size -> (none:Option Nat) ≠ some b -> w'.heap[b]? = w.heap[b]?:=by
 obtain ⟨i,z,hi,hsz,hby,hz,hzc,_⟩:=hte.info
 have hml:n + m <= maxLen:=by simp only [dL,maxLen] at hm ⊢;omega
 have h63:((n + m:Nat):Int) <= 9223372036854775807:=by simp only [dL] at hm;omega
 rw [<- hsz] at hl hlo
 rw [<- hby] at hb
 have hzsz:z.cells.size = i.size:=by
  have:=congrArg List.length hzc
  rw [List.length_map,hte.zlen] at this
  rw [hsz];simpa using this
 rcases hs with ⟨rfl,hm0⟩ | ⟨a,c,rfl,hnews⟩
 ·omega
 ·have hgr:=growslice_fits (need:=n + m) (old:=n) (bytes:=i.bytes) ω hb
  have hr:=run_append_grow (P:=P) w t ty e i z ht hi hz q n n olds hlo holds a m c news hl hnews ω h63 hgr
  have hge:=grownCap_ge w (n + m) n e
  refine ⟨some w.heap.size,grownCap w (n + m) n e,_,hr,.inr ⟨w.heap.size,_,rfl,heap_alloc_new w.drew _,hge,grownCap_le_maxLen w (n + m) n e hml,?_,fun j hj=>?_,fun j hj=>?_,.inr rfl⟩,rfl,rfl,rfl,by simp,fun b hb _=>heap_alloc_old w.drew _ b hb⟩
  ·rw [Array.size_append,Array.size_append,size_zeroCells,hzsz,List.size_toArray,List.size_toArray,hlo,hl,<- Nat.add_mul,<- Nat.add_mul,hsz]
   congr 1;omega
  ·rw [Array.append_assoc,Array.getElem?_append_left (by rw [List.size_toArray,hlo,hsz];exact hj)]
  ·rw [Array.getElem?_append_left (by rw [Array.size_append,List.size_toArray,List.size_toArray,hlo,hl,hsz];omega)]
   rw [Array.getElem?_append_right (by rw [List.size_toArray,hlo,hsz];omega)]
   rw [List.size_toArray,hlo,hsz,Nat.add_sub_cancel_left]
   simp
end
section
variable {P:Program} {X:Frm} {ops:Array Oper} {T:Tab}
inductive Src (o:Nat -> Option LObj):AV -> Nat -> Nat -> (Nat -> List AV) -> List Nat -> Prop
 | isl (n sz get):Src o (.isl n sz get) n sz get []
 | osl (id n m sz get e) (h:o id = some (.arr m sz get e)) (hm:n <= m):Src o (.osl id n) n sz get [id]
 | nils (sz):Src o .nils 0 sz (fun _=>[]) []
theorem Src.read {o:Nat -> Option LObj} {v:AV} {m sz:Nat} {get:Nat -> List AV} {ro:List Nat} (h:Src o v m sz get ro) {ρ:Loc} {Im:Nat -> Prop} {w:World} (hm:Mem X ρ Im o w) {u:Value} (hu:Con ρ Im w.heap v u) :
  m <= oK/\(((∃ p,u = .slice p 0 0)/\m = 0) \/ ∃ b off cap arr T fr,u = .slice (some ⟨b,off,none⟩) m cap/\w.heap[b]? = some (.cells arr T fr)/\off + m * sz <= arr.size/\(∀ i,i < m -> (get i).length = sz) /\
   ∀ (i j:Nat) (c:AV) (x:Value),i < m -> (get i)[j]? = some c -> arr[off + i * sz + j]? = some x -> Con ρ Im w.heap c x)/\∀ i,i < m -> ∀ c ∈ get i,∀ k,Names k c -> o k ≠ none:=by
 cases h with
 | isl=>
  rcases hu.isl_inv with ⟨hn,hx⟩ | ⟨b,off,cap,arr,T,fr,rfl,him,hb,hsz,hn,hbd,hfit,hc⟩
  ·exact ⟨by rw [hn];exact π _,.inl ⟨hx,hn⟩,fun i hi=>ω⟩
  ·refine ⟨hbd,.inr ⟨b,off,cap,arr,T,fr,rfl,hb,hfit,hsz,fun i j c x h1 h2 h3=>.imm _ _ (hc i j c x h1 h2 h3)⟩,fun i hi c hm k hk=>?_⟩
   obtain ⟨j,hj,rfl⟩:=List.mem_iff_getElem.1 hm
   have hle:(i + 1) * sz <= m * sz:=Nat.mul_le_mul_right _ hi
   have hadd:(i + 1) * sz = i * sz + sz:=Nat.succ_mul i sz
   have hlen:=hsz i hi
   exact absurd hk ((hc i j _ (arr[off + i * sz + j]'ω) hi η η).noNames k)
 | osl id _ n' _ _ e ho hle=>
  obtain ⟨hbd,hne,hnc,rfl⟩:=hu.osl_inv
  refine ⟨oL hbd,?_,fun i hi c hc k hk=>hm.ocl id _ ho k (.arr _ _ _ _ i c ω hc hk)⟩
  have hob:=hm.objs id _ ho
  cases hob with
  | arr0 _ _ _ hρ=>
   have:m = 0:=ω
   subst this
   exact .inl ⟨by simp [hρ],rfl⟩
  | arr _ _ _ _ b xs hρ hh hn hcap hxs hbd' hsz hc=>
   refine .inr ⟨b,0,(ρ id).2,xs,e,(0,0),by simp [hρ],hh,?_,fun i hi=>hsz i ω,fun i j c x h1 h2 h3=>hc i j c x ω h2 (by simpa using h3)⟩
   have:m * sz <= (ρ id).2 * sz:=Nat.mul_le_mul_right _ hnc
   omega
 | nils=>
  cases hu.nils_inv
  exact ⟨π _,.inl ⟨⟨none,rfl⟩,rfl⟩,fun i hi=>ω⟩
theorem Src.congr {o o':Nat -> Option LObj} {v:AV} {m sz:Nat} {get:Nat -> List AV} {ro:List Nat} (h:Src o v m sz get ro) (ho:∀ i ∈ ro,o' i = o i):Src o' v m sz get ro:=by
 cases h with
 | isl=>exact .isl _ _ _
 | osl id _ n' _ _ e h hle=>exact .osl id _ n' _ _ e ((ho id η).trans h) hle
 | nils=>exact .nils _
theorem xH {ρ:Loc} {Im:Nat -> Prop} {H:Heap} {m sz off:Nat} {get:Nat -> List AV} {arr:Array Value} (_hfit:off + m * sz <= arr.size)
  (hc:∀ (i j:Nat) (c:AV) (x:Value),i < m -> (get i)[j]? = some c -> arr[off + i * sz + j]? = some x -> Con ρ Im H c x) :
  ∀ (i j:Nat) (c:AV) (x:Value),i < m -> (get i)[j]? = some c -> ((arr.toList.drop off).take (m * sz))[i * sz + j]? = some x -> Con ρ Im H c x:=by
 intro i j c x hi hcj hx
 rw [List.getElem?_take] at hx
 split at hx
 ·rw [List.getElem?_drop] at hx
  exact hc i j c x hi hcj (by rw [Nat.add_assoc];simpa using hx)
 ·cases hx
theorem RelAt.append {ρ:Loc} {Im:Nat -> Prop} {s:Nat -> Option AV} {o:Nat -> Option LObj} {a:Act} {w w':World} (h:RelAt X ρ Im s o a w) {d:Nat} (hd:o d = none) {old:List Nat} {base:Option Nat} {n m sz e:Nat} {get1 get2:Nat -> List AV} {cur:Array Value}
  (hold:(old = []/\base = none/\∀ i,i < n -> ∀ c ∈ get1 i,∀ k,¬ Names k c) \/ ∃ id m1,old = [id]/\o id = some (.arr m1 sz get1 e)/\n <= m1/\id ∉ X.pid/\(ρ id).1 = base)
  (hcur:∀ (i j:Nat) (c:AV) (x:Value),i < n -> (get1 i)[j]? = some c -> cur[i * sz + j]? = some x -> Con ρ Im w.heap c x) (hl1:∀ i,i < n -> (get1 i).length = sz)
  {news:List Value} (hnew:∀ (i j:Nat) (c:AV) (x:Value),i < m -> (get2 i)[j]? = some c -> news[i * sz + j]? = some x -> Con ρ Im w.heap c x) (hl2:∀ i,i < m -> (get2 i).length = sz)
  (hn2:∀ i,i < m -> ∀ c ∈ get2 i,∀ k,Names k c -> o k ≠ none) {base':Option Nat} {cap':Nat} (hbd:n + m <= dL)
  (hb : (base' = none/\n + m = 0/\cap' = 0) \/ ∃ g' cur',base' = some g'/\w'.heap[g']? = some (.cells cur' e (0,0))/\n + m <= cap'/\cap' <= maxLen/\cur'.size = cap' * sz /\
      (∀ j,j < n * sz -> cur'[j]? = cur[j]?)/\(∀ j,j < m * sz -> cur'[n * sz + j]? = news[j]?)/\(base = some g' \/ g' = w.heap.size))
  (hos:w'.os = w.os) (htape:w'.tape = w.tape) (hout:w'.output = w.output) (hsize:w.heap.size <= w'.heap.size) (hblk:∀ b,b < w.heap.size -> base ≠ some b -> w'.heap[b]? = w.heap[b]?) :
  RelAt X (ρ.set d (base',cap')) Im s (luO ((d,some (.arr (n + m) sz (fun i=>bif Nat.blt i n then get1 i else get2 (i - n)) e)) :: old.map fun i=>(i,some .dead)) o) a w':=by
 have hdo:d ∉ old:=by
  rcases hold with ⟨rfl,_⟩ | ⟨id,m1,rfl,ho,_⟩
  ·simp
  ·simp only [List.mem_singleton];intro e;subst e;rw [hd] at ho;cases ho
 have holdo:∀ i ∈ old,o i ≠ none:=by
  rcases hold with ⟨rfl,_⟩ | ⟨id,m1,rfl,ho,_⟩
  ·simp
  ·simp [ho]
 have hlu:∀ i,luO ((d,some (.arr (n + m) sz (fun i=>bif Nat.blt i n then get1 i else get2 (i - n)) e)) :: old.map fun i=>(i,some .dead)) o i =
   if i = d then some (.arr (n + m) sz (fun i=>bif Nat.blt i n then get1 i else get2 (i - n)) e) else if i ∈ old then some .dead else o i:=by
  intro i
  simp only [luO]
  split
  ·rfl
  ·rcases hold with ⟨rfl,_⟩ | ⟨id,m1,rfl,ho,_⟩
   ·simp [luO]
   ·simp [luO]
 have hal:∀ i,o i ≠ none -> luO ((d,some (.arr (n + m) sz (fun i=>bif Nat.blt i n then get1 i else get2 (i - n)) e)) :: old.map fun i=>(i,some .dead)) o i ≠ none:=by
  intro i hi
  rw [hlu]
  split
  ·simp
  ·split
   ·simp
   ·exact hi
 have hbo:∀ g,base = some g -> ∀ id ob,o id = some ob -> ob.live = true -> (ρ id).1 = some g -> id ∈ old:=by
  intro g hg id ob hob hl hr
  rcases hold with ⟨_,hbn,_⟩ | ⟨id1,m1,rfl,ho1,_,_,hb1⟩
  ·rw [hbn] at hg;cases hg
  ·simp [h.inj id id1 ob _ g hob hl ho1 rfl hr (by rw [hb1];exact hg)]
 refine h.upd (fun i=>i = d \/ i ∈ old) hos htape hout hsize (fun b hb hne=>hblk b hb fun hbb=>?_) (fun i hi=>Loc.set_ne _ _ fun e=>hi (by rw [e];exact hd)) (fun i hi=>?_) hal (fun i ob hi hob=>?_) (fun i ob hi hob=>?_)
 rotate_right
 ·rcases hi with hi | hi
  ·rw [hi,hd] at hob;cases hob
  ·rcases hold with ⟨rfl,_⟩ | ⟨id1,m1,rfl,ho1,_,_,_⟩
   ·cases hi
   ·rw [List.mem_singleton.1 hi,ho1] at hob;cases hob;rfl
 ·rcases hold with ⟨_,hbn,_⟩ | ⟨id1,m1,rfl,ho1,_,_,hb1⟩
  ·rw [hbn] at hbb;cases hbb
  ·exact hne id1 _ (.inr η) ho1 rfl (by rw [hb1];exact hbb)
 ·rw [hlu,if_neg (fun e=>hi (.inl e)),if_neg (fun e=>hi (.inr e))]
 ·rw [hlu] at hob
  by_cases hid:i = d
  ·rw [if_pos hid] at hob
   subst hid
   simp only [Option.some.injEq] at hob
   subst hob
   have hcm:∀ {c:AV} {x:Value},Con ρ Im w.heap c x -> (∀ k,Names k c -> o k ≠ none) -> Con (ρ.set i (base',cap')) Im w'.heap c x:=fun hc hk=>
    (hc.mono (fun b hb=>hb) fun b hb=>hblk b (h.imlt b hb) fun hbb=>by
     rcases hold with ⟨_,hbn,_⟩ | ⟨id1,m1,rfl,ho1,_,_,hb1⟩
     ·rw [hbn] at hbb;cases hbb
     ·exact (h.own id1 _ b ho1 rfl (by rw [hb1];exact hbb)).1 hb).reloc fun k hn=>Loc.set_ne _ _ fun e=>hk k hn (by rw [e];exact hd)
   have hn1:∀ i,i < n -> ∀ c ∈ get1 i,∀ k,Names k c -> o k ≠ none:=by
    intro i hi c hc k hk
    rcases hold with ⟨_,_,hn0⟩ | ⟨id1,m1,rfl,ho1,hle,_,_⟩
    ·exact absurd hk (hn0 i hi c hc k)
    ·exact h.ocl id1 _ ho1 k (.arr _ _ _ _ i c ω hc hk)
   have hblt:∀ i',(bif Nat.blt i' n then get1 i' else get2 (i' - n)) = if i' < n then get1 i' else get2 (i' - n):=by
    intro i'
    by_cases hlt:i' < n
    ·rw [if_pos hlt,show Nat.blt i' n = true by simpa [Nat.blt_eq] using hlt];rfl
    ·rw [if_neg hlt]
     cases hbl:Nat.blt i' n with
     | true=>exact absurd (by simpa [Nat.blt_eq] using hbl) hlt
     | false=>rfl
   refine ⟨?_,fun k hk=>?_,fun _ b hbb=>?_,fun _ b hbb id' ob' hob' hl' hb'=>?_⟩
   ·rcases hb with ⟨rfl,hz,rfl⟩ | ⟨g',cur',rfl,hg',hnc,hcm',hcs,hc1,hc2,_⟩
    ·rw [hz]
     exact .arr0 _ _ _ (by rw [Loc.set_same])
    ·refine .arr _ _ _ _ g' cur' (by rw [Loc.set_same]) hg' (by rw [Loc.set_same];exact hnc) (by rw [Loc.set_same];exact hcm') (by rw [Loc.set_same];exact hcs) hbd (fun i' hi'=>?_) fun i' j c x hi' hcj hxj=>?_
     ·simp only [hblt]
      split
      ·rename_i hlt;exact hl1 i' hlt
      ·exact hl2 _ ω
     ·simp only [hblt] at hcj
      split at hcj
      ·rename_i hlt
       have hjl:j < sz:=by have:=(List.getElem?_eq_some_iff.1 hcj).1;have:=hl1 i' hlt;omega
       have hmul:(i' + 1) * sz <= n * sz:=Nat.mul_le_mul_right _ hlt
       rw [Nat.succ_mul] at hmul
       rw [hc1 _ ω] at hxj
       exact hcm (hcur i' j c x hlt hcj hxj) (hn1 i' hlt c (List.mem_of_getElem? hcj))
      ·rename_i hlt
       have hlt2:i' - n < m:=ω
       have hjl:j < sz:=by have:=(List.getElem?_eq_some_iff.1 hcj).1;have:=hl2 _ hlt2;omega
       have hmul:(i' - n + 1) * sz <= m * sz:=Nat.mul_le_mul_right _ hlt2
       rw [Nat.succ_mul] at hmul
       have e1:i' * sz + j = n * sz + ((i' - n) * sz + j):=by
        have:i' * sz = n * sz + (i' - n) * sz:=by rw [<- Nat.add_mul];congr 1;omega
        omega
       rw [e1,hc2 _ ω] at hxj
       exact hcm (hnew _ j c x hlt2 hcj hxj) (hn2 _ hlt2 c (List.mem_of_getElem? hcj))
   ·cases hk with
    | arr _ _ _ _ i' c hi' hm hk=>
     simp only [hblt] at hm
     split at hm
     ·rename_i hlt;exact hal k (hn1 i' hlt c hm k hk)
     ·exact hal k (hn2 _ ω c hm k hk)
   ·rw [Loc.set_same] at hbb
    rcases hb with ⟨rfl,_,_⟩ | ⟨g',cur',rfl,hg',_,_,_,_,_,hor⟩
    ·cases hbb
    ·simp only [Option.some.injEq] at hbb
     subst hbb
     have hlt':=(Array.getElem?_eq_some_iff.1 hg').1
     rcases hor with hor | hor
     ·rcases hold with ⟨_,hbn,_⟩ | ⟨id1,m1,rfl,ho1,_,hp,hb1⟩
      ·rw [hbn] at hor;cases hor
      ·obtain ⟨h1,h2,h3⟩:=h.own id1 _ g' ho1 rfl (by rw [hb1];exact hor)
       exact ⟨h1,hlt',.inl (h3.resolve_right hp)⟩
     ·subst hor
      exact ⟨fun hi=>by have:=h.imlt _ hi;omega,hlt',.inl h.size⟩
   ·rw [Loc.set_same] at hbb
    by_cases he:id' = i
    ·exact he
    ·exfalso
     rw [hlu,if_neg he] at hob'
     split at hob'
     ·simp only [Option.some.injEq] at hob';subst hob';cases hl'
     ·rename_i hni
      rw [Loc.set_ne _ _ he] at hb'
      rcases hb with ⟨rfl,_,_⟩ | ⟨g',cur',rfl,hg',_,_,_,_,_,hor⟩
      ·cases hbb
      ·simp only [Option.some.injEq] at hbb
       subst hbb
       rcases hor with hor | hor
       ·exact hni (hbo _ hor id' ob' hob' hl' hb')
       ·subst hor
        have:=(h.own id' ob' _ hob' hl' hb').2.1
        omega
  ·rw [if_neg hid] at hob
   rcases hi with hi | hi
   ·exact absurd hi hid
   ·rw [if_pos hi] at hob
    simp only [Option.some.injEq] at hob
    subst hob
    exact ⟨.dead,fun k hk=>(by cases hk),fun hl=>(by cases hl),fun hl=>(by cases hl)⟩
def oO (o:Nat -> Option LObj) (v:AV) (sz:Nat) (k:Nat -> (Nat -> List AV) -> List Nat -> Prop):Prop:=match v with
 | .isl n sz' get=>ck (Nat.beq sz' sz) (k n get [])
 | .osl id n=>match o id with
  | some (.arr m sz' get _)=>ck (Nat.beq sz' sz) (Side (n <= m) (k n get [id]))
  | _=>False
 | .nils=>k 0 (fun _=>[]) []
 | _=>False
theorem iv {o:Nat -> Option LObj} {v:AV} {sz:Nat} {k:Nat -> (Nat -> List AV) -> List Nat -> Prop} (h:oO o v sz k):∃ n get ro,k n get ro/\Src o v n sz get ro:=by
 unfold oO at h
 split at h
 ·obtain ⟨hs,hk⟩:=aV h
  have:=Nat.eq_of_beq_eq_true hs
  subst this
  exact ⟨_,_,_,hk,.isl _ _ _⟩
 ·split at h
  ·rename_i id n m sz' get e ho
   obtain ⟨hs,hle,hk⟩:=aV h
   have:=Nat.eq_of_beq_eq_true hs
   subst this
   exact ⟨_,_,_,hk,.osl _ _ _ _ _ _ ho hle⟩
  ·exact h.elim
 ·exact ⟨_,_,_,h,.nils _⟩
 ·exact h.elim
def qJ (n m:Nat) (get:Nat -> List AV):Prop:=n + m <= 1099511627776/\∀ i,i < m -> eH (get i) = true
theorem vW {bytes n m:Nat} {get:Nat -> List AV} (h2:Nat.ble bytes 128 = true) (h:qJ n m get):(n + m) * bytes <= 140737488355328/\n + m <= dL:=by
 obtain ⟨h1,_⟩:=h
 have h2:=Nat.le_of_ble_eq_true h2
 refine ⟨Nat.le_trans (Nat.mul_le_mul h1 h2) ω,by simp only [dL];omega⟩
def jY (T:Tab) (ti:TI) (pid:List Nat) (o:Nat -> Option LObj) (d:Nat) (dst src:AV) (k:List Nat -> Nat -> List (Nat × Option LObj) -> Prop):Prop:=match ti.tk with
 | .slice e=>match luT T e with
  | some te=>match dst with
   | .nils=>ck (Nat.ble te.bytes 128) (oO o src te.size fun m get2 ro=>Side (qJ 0 m get2) (k (d :: ro) m [(d,some (.arr m te.size get2 e))]))
   | .emp=>ck (Nat.ble te.bytes 128) (oO o src te.size fun m get2 ro=>Side (0 < m/\qJ 0 m get2) (k (d :: ro) m [(d,some (.arr m te.size get2 e))]))
   | .icap n sz1 get1=>ck (Nat.ble te.bytes 128 && Nat.beq sz1 te.size) (oO o src te.size fun m get2 ro=>Side (0 < m/\qJ n m get2) (k (d :: ro) (n + m) [(d,some (.arr (n + m) te.size (fun i=>bif Nat.blt i n then get1 i else get2 (i - n)) e))]))
   | .osl id n=>match o id with
    | some (.arr m1 sz1 get1 e1)=>ck (Nat.ble te.bytes 128 && (Nat.beq sz1 te.size && (Nat.beq e1 e && !pid.elem id))) (oO o src te.size fun m get2 ro=>Side (n <= m1/\qJ n m get2)
      (k (d :: id :: ro) (n + m) [(d,some (.arr (n + m) te.size (fun i=>bif Nat.blt i n then get1 i else get2 (i - n)) e)),(id,some .dead)]))
    | _=>False
   | _=>False
  | none=>False
 | _=>False
theorem oP (hT:dM P T) {op:Oper} {t:Nat} {x y:Operand} (ho:op.op = .call { callee:=.builtin .append,args:=#[x,y],argTypes:=#[t,t] }) {d:Nat} {A:St} (hg:gOk ops op A.s) (hd:bL X.nt op) (hid:A.o d = none)
  {ti:TI} (hti:TiOk P t ti) {v u:AV} (hv:opdV A.s x = some v) (hu:opdV A.s y = some u) {k:List Nat -> Nat -> List (Nat × Option LObj) -> Prop} (h:jY T ti X.pid A.o d v u k) :
  ∃ ro n wo,k ro n wo/\bz P X ops op A.s A.o (effV ops op (opdS x ++ opdS y) ro (.osl d n) wo):=by
 unfold jY at h
 split at h
 ·rename_i e hk
  have hund:=hti.slice hk
  split at h
  ·rename_i te hte
   have hte:=hT e te hte
   -- the core, for both
   have core:∀ (old:List Nat) (n m:Nat) (get1 get2:Nat -> List AV) (ro:List Nat),Nat.ble te.bytes 128 = true -> Src A.o u m te.size get2 ro -> qJ n m get2 ->
     ((old = []/\v = .nils/\n = 0) \/ (old = []/\v = .emp/\n = 0/\0 < m) \/ (old = []/\v = .icap n te.size get1/\0 < m) \/ ∃ id m1,old = [id]/\v = .osl id n/\A.o id = some (.arr m1 te.size get1 e)/\n <= m1/\id ∉ X.pid) ->
     bz P X ops op A.s A.o (effV ops op (opdS x ++ opdS y) (d :: old ++ ro) (.osl d (n + m)) ((d,some (.arr (n + m) te.size (fun i=>bif Nat.blt i n then get1 i else get2 (i - n)) e)) :: old.map fun i=>(i,some .dead))):=by
    intro old n m get1 get2 ro hble hsrc happ hold
    obtain ⟨hby,hmx⟩:=vW hble happ
    refine cg hg hd fun s' o' hs hoo ρ Im a w hr=>?_
    have hv':opdV s' x = some v:=(au fun k hk=>hs k (by simp [hk])).trans hv
    have hu':opdV s' y = some u:=(au fun k hk=>hs k (by simp [hk])).trans hu
    have hdo:o' d = none:=(hoo d η).trans hid
    have hsrc':Src o' u m te.size get2 ro:=hsrc.congr fun i hi=>hoo i (by simp [hi])
    obtain ⟨hms,hread,hnm⟩:=hsrc'.read hr.toMem (hr.opd hu')
    -- what is appended
    have hnews:∃ news:List Value,news.length = m * te.size/\((a.eval y = .slice none 0 0/\m = 0) \/ ∃ ad c,a.eval y = .slice (some ad) m c/\∀ j z,news[j]? = some z -> w.cell? (ad.add j) = some z) /\
      (∀ i,i < m -> (get2 i).length = te.size)/\(∀ (i j:Nat) (c:AV) (z:Value),i < m -> (get2 i)[j]? = some c -> news[i * te.size + j]? = some z -> Con ρ Im w.heap c z):=by
     rcases hread with ⟨e1,hm0⟩ | ⟨b,off,cap,arr,T',fr,e1,hb,hfit,hlen,hc⟩
     ·subst hm0
      obtain ⟨p,e1⟩:=e1
      cases p with
      | none=>exact ⟨[],by simp,.inl ⟨e1,rfl⟩,fun i hi=>ω,fun i j c z hi=>ω⟩
      | some q=>exact ⟨[],by simp,.inr ⟨q,0,e1,fun j z hz=>by simp at hz⟩,fun i hi=>ω,fun i j c z hi=>ω⟩
     ·refine ⟨(arr.toList.drop off).take (m * te.size),by simp;omega,.inr ⟨_,cap,e1,fun j z hz=>?_⟩,hlen,xH hfit hc⟩
      rw [Addr.add_lit,cell_of_row w b _ arr T' fr hb]
      rw [List.getElem?_take] at hz
      split at hz
      ·simpa using hz
      ·cases hz
    obtain ⟨news,hnl,hsv,hl2,hnc⟩:=hnews
    have hone:∀ z ∈ news,z.oneCell' = true:=by
     intro z hz
     obtain ⟨p,hp,rfl⟩:=List.mem_iff_getElem.1 hz
     have hsz0:0 < te.size:=by
      rcases Nat.eq_zero_or_pos te.size with h0 | h0
      ·rw [h0,Nat.mul_zero] at hnl;omega
      ·exact h0
     have hq:p / te.size < m:=by
      rw [Nat.div_lt_iff_lt_mul hsz0];omega
     have hr':p % te.size < te.size:=Nat.mod_lt _ hsz0
     have hlen:=hl2 _ hq
     have e2:p / te.size * te.size + p % te.size = p:=by rw [Nat.mul_comm];exact Nat.div_add_mod p te.size
     have hcc:=hnc (p / te.size) (p % te.size) ((get2 (p / te.size))[p % te.size]'ω) (news[p]) hq η (by rw [e2];simp)
     exact hcc.oneCell (iN (happ.2 _ hq) _ η)
    -- what it is appended to
    have hall:∃ (base:Option Nat) (cur:Array Value) (base':Option Nat) (cap':Nat) (w':World),(Builtin.append_ #[t,t] op.type #[a.eval x,a.eval y]).run P w = .ok (.slice (base'.map fun b=>⟨b,0,none⟩) (n + m) cap') w' /\
      ((base' = none/\n + m = 0/\cap' = 0) \/ ∃ (g':Nat) (cur':Array Value),base' = some g'/\w'.heap[g']? = some (.cells cur' e (0,0))/\n + m <= cap'/\cap' <= maxLen/\cur'.size = cap' * te.size /\
       (∀ j,j < n * te.size -> cur'[j]? = cur[j]?)/\(∀ j,j < m * te.size -> cur'[n * te.size + j]? = news[j]?)/\(base = some g' \/ g' = w.heap.size)) /\
      (w'.os = w.os/\w'.tape = w.tape/\w'.output = w.output/\w.heap.size <= w'.heap.size/\∀ b,b < w.heap.size -> base ≠ some b -> w'.heap[b]? = w.heap[b]?) /\
      (∀ (i j:Nat) (c:AV) (z:Value),i < n -> (get1 i)[j]? = some c -> cur[i * te.size + j]? = some z -> Con ρ Im w.heap c z)/\(∀ i,i < n -> (get1 i).length = te.size) /\
      ((old = []/\base = none/\∀ i,i < n -> ∀ c ∈ get1 i,∀ k,¬ Names k c) \/ ∃ id m1,old = [id]/\o' id = some (.arr m1 te.size get1 e)/\n <= m1/\id ∉ X.pid/\(ρ id).1 = base):=by
     suffices fin:(∃ (base:Option Nat) (cap:Nat) (cur:Array Value),a.eval x = .slice (base.map fun b=>⟨b,0,none⟩) n cap/\((base = none/\n = 0/\cap = 0) \/ ∃ g,base = some g/\w.heap[g]? = some (.cells cur e (0,0))/\n <= cap/\cap <= maxLen/\cur.size = cap * te.size) /\
       (∀ (i j:Nat) (c:AV) (z:Value),i < n -> (get1 i)[j]? = some c -> cur[i * te.size + j]? = some z -> Con ρ Im w.heap c z)/\(∀ i,i < n -> (get1 i).length = te.size) /\
       ((old = []/\base = none/\∀ i,i < n -> ∀ c ∈ get1 i,∀ k,¬ Names k c) \/ ∃ id m1,old = [id]/\o' id = some (.arr m1 te.size get1 e)/\n <= m1/\id ∉ X.pid/\(ρ id).1 = base)) \/ (old = []/\v = .emp/\n = 0/\0 < m) \/ (old = []/\v = .icap n te.size get1/\0 < m) by
      rcases fin with ⟨base,cap,cur,he,hdd,hc1,hl1,hold'⟩ | ⟨rfl,rfl,rfl,hpos⟩ | ⟨rfl,rfl,hpos⟩
      ·obtain ⟨base',cap',w',hrun,hres,hrest⟩:=nr hund hte op.type base n cap cur hdd (a.eval y) m news hnl hsv hone hby hmx
       rw [<- he] at hrun
       exact ⟨base,cur,base',cap',w',hrun,hres,hrest,hc1,hl1,hold'⟩
      ·obtain ⟨p,hp⟩:=(hr.opd hv').emp_inv
       obtain ⟨base',cap',w',hrun,hres,hrest⟩:=ns hund hte op.type p #[] (a.eval y) m news hnl hsv (by simpa using hby) ω hpos
       rw [<- hp] at hrun
       exact ⟨none,#[],base',cap',w',hrun,hres,hrest,fun i j c z hi=>ω,fun i hi=>ω,.inl ⟨rfl,rfl,fun i hi=>ω⟩⟩
      ·obtain ⟨b,off,arr,T',fr,hp,him,hb,hsz,hn,hbd,hfit,hci⟩:=(hr.opd hv').icap_inv
       obtain ⟨base',cap',w',hrun,hres,hrest⟩:=nu hund hte op.type ⟨b,off,none⟩ n ((arr.toList.drop off).take (n * te.size)) (by simp;omega) (fun j z hz=>by
        rw [Addr.add_lit,cell_of_row w b _ arr T' fr hb]
        rw [List.getElem?_take] at hz
        split at hz
        ·simpa using hz
        ·cases hz) (a.eval y) m news hnl hsv hby hmx hpos
       rw [<- hp] at hrun
       refine ⟨none,((arr.toList.drop off).take (n * te.size)).toArray,base',cap',w',hrun,hres,hrest,fun i j c z hi h1 h2=>xH hfit (fun i j c z h1 h2 h3=>.imm _ _ (hci i j c z h1 h2 h3)) i j c z hi h1 (by simpa using h2),hsz,.inl ⟨rfl,rfl,fun i hi c hc k hk=>?_⟩⟩
       obtain ⟨j,hj,rfl⟩:=List.mem_iff_getElem.1 hc
       have hle:(i + 1) * te.size <= n * te.size:=Nat.mul_le_mul_right _ hi
       have hadd:(i + 1) * te.size = i * te.size + te.size:=Nat.succ_mul i te.size
       have hlen:=hsz i hi
       exact (hci i j _ (arr[off + i * te.size + j]'ω) hi η η).noNames k hk
     rcases hold with ⟨rfl,rfl,rfl⟩ | ⟨rfl,rfl,rfl,hpos⟩ | ⟨rfl,rfl,hpos⟩ | ⟨id,m1,rfl,rfl,hob,hle,hp⟩
     ·exact .inl ⟨none,0,#[],(hr.opd hv').nils_inv,.inl ⟨rfl,rfl,rfl⟩,fun i j c z hi=>ω,fun i hi=>ω,.inl ⟨rfl,rfl,fun i hi=>ω⟩⟩
     ·exact .inr (.inl ⟨rfl,rfl,rfl,hpos⟩)
     ·exact .inr (.inr ⟨rfl,rfl,hpos⟩)
     ·have hob':o' id = some (.arr m1 te.size get1 e):=(hoo id η).trans hob
      obtain ⟨hbd,hne,hnc,he⟩:=(hr.opd hv').osl_inv
      have hobc:=hr.objs id _ hob'
      cases hobc with
      | arr0 _ _ _ hρ=>
       have:n = 0:=ω
       subst this
       exact .inl ⟨none,0,#[],by simp [he,hρ],.inl ⟨rfl,rfl,rfl⟩,fun i j c z hi=>ω,fun i hi=>ω,.inr ⟨id,0,rfl,hob',hle,hp,by rw [hρ]⟩⟩
      | arr _ _ _ _ b xs hρ hh hn hcap hxs hbd' hsz hc=>
       exact .inl ⟨some b,(ρ id).2,xs,by rw [he,hρ],.inr ⟨b,rfl,hh,hnc,hcap,hxs⟩,fun i j c z hi h1 h2=>hc i j c z ω h1 h2,fun i hi=>hsz i ω,.inr ⟨id,m1,rfl,hob',hle,hp,hρ⟩⟩
    obtain ⟨base,cur,base',cap',w',hrun,hres,⟨hos,htape,hout,hsize,hblk⟩,hc1,hl1,hold'⟩:=hall
    have hrel:=hr.append hdo hold' hc1 hl1 hnc hl2 hnm hmx hres hos htape hout hsize hblk
    have hex:(execOp a.eval op).run P w = .ok (.value (.slice (base'.map fun b=>⟨b,0,none⟩) (n + m) cap')) w':=by
     simp [execOp,ho,resolve,invoke,builtin,hrun]
    unfold Oper.wp
    rw [hex]
    refine ⟨_,_,Im,rfl,hrel,?_,fun i hi=>?_⟩
    ·have:=Con.osl (ρ:=ρ.set d (base',cap')) (Im:=Im) (H:=w'.heap) d (n + m) hmx (fun hne=>by
      rw [Loc.set_same]
      rcases hres with ⟨_,h0,_⟩ | ⟨g',_,rfl,_⟩
      ·exact absurd h0 hne
      ·simp) (by
      rw [Loc.set_same]
      rcases hres with ⟨_,h0,h1⟩ | ⟨g',_,rfl,_,hle,_⟩
      ·show n + m <= cap';omega
      ·exact hle)
     rw [Loc.set_same] at this
     exact this
    ·cases hi
     simp [luO]
   split at h
   ·obtain ⟨hble,h⟩:=aV h
    obtain ⟨m,get2,ro,⟨happ,hk⟩,hsrc⟩:=iv h
    have:=core [] 0 m (fun _=>[]) get2 ro hble hsrc happ (.inl ⟨rfl,rfl,rfl⟩)
    have e1:(fun i=>bif Nat.blt i 0 then ([]:List AV) else get2 (i - 0)) = get2:=by
     funext i
     have:Nat.blt i 0 = false:=by cases hb:Nat.blt i 0 with
      | true=>simp [Nat.blt_eq] at hb
      | false=>rfl
     rw [this];simp
    simp only [e1,Nat.zero_add,List.map_nil] at this
    exact ⟨_,_,_,hk,this⟩
   ·obtain ⟨hble,h⟩:=aV h
    obtain ⟨m,get2,ro,⟨⟨hpos,happ⟩,hk⟩,hsrc⟩:=iv h
    have:=core [] 0 m (fun _=>[]) get2 ro hble hsrc happ (.inr (.inl ⟨rfl,rfl,rfl,hpos⟩))
    have e1:(fun i=>bif Nat.blt i 0 then ([]:List AV) else get2 (i - 0)) = get2:=by
     funext i
     have:Nat.blt i 0 = false:=by cases hb:Nat.blt i 0 with
      | true=>simp [Nat.blt_eq] at hb
      | false=>rfl
     rw [this];simp
    simp only [e1,Nat.zero_add,List.map_nil] at this
    exact ⟨_,_,_,hk,this⟩
   ·rename_i n sz1 get1
    obtain ⟨hb,h5⟩:=aV h
    simp only [Bool.and_eq_true] at hb
    obtain ⟨hble,h2⟩:=hb
    have h2:=Nat.eq_of_beq_eq_true h2
    subst h2
    obtain ⟨m,get2,ro,⟨⟨hpos,happ⟩,hk⟩,hsrc⟩:=iv h5
    have:=core [] n m get1 get2 ro hble hsrc happ (.inr (.inr (.inl ⟨rfl,rfl,hpos⟩)))
    exact ⟨_,_,_,hk,this⟩
   ·split at h
    ·rename_i id n _ m1 sz1 get1 e1 hob
     obtain ⟨hb,h⟩:=aV h
     simp only [Bool.and_eq_true,Bool.not_eq_true'] at hb
     obtain ⟨hble,h2,h3,h4⟩:=hb
     obtain ⟨m,get2,ro,⟨⟨h1,happ⟩,hk⟩,hsrc⟩:=iv h
     have h2:=Nat.eq_of_beq_eq_true h2
     have h3:=Nat.eq_of_beq_eq_true h3
     subst h2;subst h3
     have hp:id ∉ X.pid:=by
      intro hm
      rw [List.elem_eq_true_of_mem hm] at h4
      cases h4
     have:=core [id] n m get1 get2 ro hble hsrc happ (.inr (.inr (.inr ⟨id,m1,rfl,rfl,hob,h1,hp⟩)))
     exact ⟨_,_,_,hk,this⟩
    ·exact h.elim
   ·exact h.elim
  ·exact h.elim
 ·exact h.elim
end
end Go.Nc
