/- FailureOrder: the plain law. -/
import Derived.Test.YtnnpilpjbjbafaaGreatNcFD2
namespace Go.Nc
open Go.Proofs
theorem yC {x:Prom}:∀ {l:List Prom},(∀ y ∈ l,x.prio < y.prio) -> insP x l = x :: l
 | [],_=>rfl
 | y :: l,h=>by
  unfold insP
  rw [if_neg (by have:=h y η;omega)]
theorem yD {l:List Prom} (h:l.Pairwise fun x y=>x.prio < y.prio):bD l.reverse = l:=by
 unfold bD
 rw [List.foldl_reverse]
 induction h with
 | nil=>rfl
 | cons hx _ ih=>rw [List.foldr_cons,ih,yC hx]
theorem nL {l:List Prom} (h:l.Pairwise fun x y=>x.prio < y.prio):bD l = l:=wZ (h.imp fun h=>ω)
theorem yE {names:List ByteArray} {lines:List Line} {l:List Prom} (h:l.Pairwise fun x y=>x.prio < y.prio):bZ names lines l.reverse = bZ names lines l:=by
 unfold bZ
 rw [yD h,nL h,List.length_reverse]
theorem kS {x:Prom}:∀ {l:List Prom} {p:Plan} {out:List ByteArray} {c:Plan} {o:List ByteArray},cA p out l = .ok (c,o) -> ∀ {r:Plan × List ByteArray},cA p out (l ++ [x]) = .ok r -> r.1.proms = c.proms \/ r.1.proms = c.proms ++ [x]
 | [],p,out,c,o,h,r,h2=>by
  cases h
  rw [List.nil_append,cA] at h2
  split at h2
  ·rename_i q hq
   cases h2
   exact .inr (gi hq).2.2
  ·split at h2
   ·cases h2;exact .inl rfl
   ·cases h2
 | y :: l,p,out,c,o,h,r,h2=>by
  rw [cA] at h
  rw [List.cons_append,cA] at h2
  split at h
  ·rename_i q hq
   rw [hq] at h2
   exact kS h h2
  ·rename_i e he
   rw [he] at h2
   dsimp only at h2
   split at h
   ·rename_i h61
    rw [if_pos h61] at h2
    exact kS h h2
   ·cases h
def priI (l:List Prom):Nat -> List Prom
 | 0=>l
 | j + 1=>(priI l j).set j { (priI l j).getD j default with prio:=j }
theorem lN {l:List Prom}:∀ {j:Nat},(priI l j).length = l.length
 | 0=>rfl
 | j + 1=>by unfold priI;rw [List.length_set,lN]
theorem v8 {l:List Prom}:∀ {j:Nat} {i:Nat},j <= l.length -> i < l.length -> (priI l j).getD i default = ⟨(l.getD i default).flow,(l.getD i default).dead,if i < j then (i:Int) else (l.getD i default).prio⟩
 | 0,i,_,_=>by rw [if_neg ω];rfl
 | j + 1,i,hj,hi=>by
  have hl:=lN (l:=l) (j:=j)
  unfold priI
  by_cases e:i = j
  ·subst e
   rw [show ((priI l i).set i { (priI l i).getD i default with prio:=(i:Int) }).getD i default = { (priI l i).getD i default with prio:=(i:Int) } by simp [hl,hi],v8 ω hi,show (if i < i + 1 then (i:Int) else (l.getD i default).prio) = i from if_pos ω]
  ·rw [show ((priI l j).set j { (priI l j).getD j default with prio:=(j:Int) }).getD i default = (priI l j).getD i default by simp [List.getElem?_set_ne (show j ≠ i from fun h=>e h.symm)],v8 ω hi]
   by_cases h:i < j
   ·rw [if_pos h,if_pos ω]
   ·rw [if_neg h,if_neg ω]
def numP (l:List Prom):List Prom:=priI l l.length
theorem rD {l:List Prom}:(numP l).length = l.length:=lN
theorem rE {l:List Prom} {i:Nat} (hi:i < l.length):(numP l).getD i default = ⟨(l.getD i default).flow,(l.getD i default).dead,i⟩:=by
 unfold numP
 rw [v8 (ξ _) hi,if_pos hi]
theorem DC {l:List Prom}:(numP l).Pairwise fun x y=>x.prio < y.prio:=by
 rw [List.pairwise_iff_getElem]
 intro i j hi hj hij
 have hl:=rD (l:=l)
 have e1:=rE (l:=l) (i:=i) ω
 have e2:=rE (l:=l) (i:=j) ω
 rw [ψ,β hi] at e1
 rw [ψ,β hj] at e2
 rw [show (numP l)[i] = _ from e1,show (numP l)[j] = _ from e2]
 show (i:Int) < j
 omega
theorem pK {l:List Prom}:(numP l).map Prom.flow = l.map Prom.flow:=by
 refine List.ext_getElem (by simp [rD]) fun i h1 h2=>?_
 rw [List.length_map] at h1 h2
 have e1:=rE (l:=l) h2
 rw [ψ,β h1,ψ,β h2] at e1
 rw [List.getElem_map,List.getElem_map,show (numP l)[i] = _ from e1]
 rfl
theorem BJ {l:List Prom} (hl:l.length <= 9) (h:∀ x ∈ l,bn x):∀ x ∈ numP l,bn x:=fun x hx=>by
 obtain ⟨i,hi,rfl⟩:=aV default hx
 rw [rD] at hi
 rw [rE hi]
 obtain ⟨h1,h2⟩:=h _ (bq default hi)
 exact ⟨h1,by show 0 <= (i:Int)/\(i:Int) <= 9;omega⟩
structure OrdQ (names:List ByteArray) (lines:List Line) (l:List Prom) (a c:Plan) (u v:List ByteArray):Prop where
 shed:bZ names lines l = .ok (a,u)
 back:bZ names lines l.reverse = .ok (a,u)
 ok:PlanL a
 less:bZ names lines (l.take (l.length - 1)) = .ok (c,v)
 okc:PlanL c
 len:c.proms.length <= a.proms.length
 mem:l ≠ [] -> ∀ x ∈ a.proms,x.flow.name ≠ (l.getD (l.length - 1) default).flow.name -> x ∈ c.proms
theorem v9 {names:List ByteArray} {lines:List Line} {l:List Prom} (hn:NetOk ⟨names,lines,l.map Prom.flow⟩) (hT:∀ x ∈ l,bn x) (hs:l.Pairwise fun x y=>x.prio < y.prio):∃ a c u v,OrdQ names lines l a c u v:=by
 obtain ⟨a,pa,fa,K⟩:=kR hn hT
 have hn2:NetOk ⟨names,lines,(l.take (l.length - 1)).map Prom.flow⟩:=by
  have hsub:(l.take (l.length - 1)).Sublist l:=List.take_sublist _ _
  refine hn.some (fun f hf=>?_) ?_ ?_
  ·obtain ⟨y,hy,rfl⟩:=List.mem_map.1 hf
   exact List.mem_map.2 ⟨y,hsub.subset hy,rfl⟩
  ·exact ((hsub.map Prom.flow).map Flow.name).nodup hn.fnodup
  ·have:=hn.flen
   rw [List.length_map] at this
   rw [List.length_map]
   have:=hsub.length_le
   omega
 obtain ⟨c,pc,fc,K2⟩:=kR hn2 fun x hx=>hT x (List.mem_of_mem_take hx)
 have hor:a.proms = c.proms \/ (l ≠ []/\a.proms = c.proms ++ [l.getD (l.length - 1) default]):=by
  by_cases h0:l = []
  ·subst h0
   have h1:=K.shed
   have h2:=K2.shed
   rw [show ([]:List Prom).take (([]:List Prom).length - 1) = [] from rfl,h1] at h2
   exact .inl (congrArg (fun x:Plan × List ByteArray=>x.1.proms) (Except.ok.inj h2))
  ·have hl:0 < l.length:=List.length_pos_iff.2 h0
   have el:l = l.take (l.length - 1) ++ [l.getD (l.length - 1) default]:=by
    have h1:=List.take_append_drop (l.length - 1) l
    rw [List.drop_eq_getElem_cons (ω:l.length - 1 < l.length),List.drop_of_length_le ω] at h1
    rw [show l.getD (l.length - 1) default = l[l.length - 1] by simp [(ω:l.length - 1 < l.length)]]
    exact h1.symm
   have h1:=K.shed
   have h2:=K2.shed
   have hs2:(l.take (l.length - 1)).Pairwise fun x y=>x.prio < y.prio:=hs.sublist (List.take_sublist _ _)
   unfold bZ at h1 h2
   rw [(gJ (hn.some (fl':=[]) (fun f hf=>by cases hf) List.nodup_nil η)).1] at h1 h2
   dsimp only at h1 h2
   split at h1
   ·cases h1
   split at h2
   ·cases h2
   rw [nL hs] at h1
   rw [nL hs2] at h2
   rw [el] at h1
   rw [<- el] at h1
   have h1':cA ⟨names,lines,[],cz ⟨names,lines,[]⟩⟩ [] (l.take (l.length - 1) ++ [l.getD (l.length - 1) default]) = .ok (a,fa.map fun x=>x.flow.name):=by rw [<- el];exact h1
   rcases kS h2 h1' with h | h
   ·exact .inl h
   ·exact .inr ⟨h0,h⟩
 refine ⟨a,c,_,_,K.shed,(yE hs).trans K.shed,K.ok,K2.shed,K2.ok,?_,fun h0 x hx hne=>?_⟩
 ·rcases hor with h | ⟨_,h⟩
  ·rw [h];exact ξ _
  ·rw [h,List.length_append];omega
 ·rcases hor with h | ⟨_,h⟩
  ·rw [<- h];exact hx
  ·rw [h] at hx
   rcases List.mem_append.1 hx with hx | hx
   ·exact hx
   ·rw [List.mem_singleton.1 hx] at hne
    exact absurd rfl hne
end Go.Nc
