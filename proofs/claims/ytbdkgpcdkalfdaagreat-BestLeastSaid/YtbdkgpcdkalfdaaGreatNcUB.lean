/- Parts. -/
import Derived.Test.YtbdkgpcdkalfdaaGreatNcUA
import Derived.Test.YtbdkgpcdkalfdaaGreatNcOA
namespace Go.Nc
open Go.Proofs
theorem pE{n:Net}(h:NetOk n)(F:Nat->Nat->Int):DimOk n (qD n F):=by
 refine⟨jr n F,λi hi=>?_⟩;have hc:=(h.line (n.lines.getD i default) (by rw[ψ,β hi];exact List.getElem_mem _)).cls;rw[ip n F hi,l8];omega
theorem k8{n:Net}(h:NetOk n){F:Nat->Nat->Int}(hF:∀i c:Nat,i<n.lines.length->(c:Int)<(n.lines.getD i default).classes-> -1<=F i c/\F i c<=400):ShapeOk n (qD n F):=by
 refine⟨(pE h F).len,(pE h F).row,λi j hi hj=>?_⟩;have hr:=(pE h F).row i hi;have:=hF i j hi ω;rw[ip n F hi,nJ n F ω];exact this
theorem pF{n:Net}(h:NetOk n){d:Xa}(hd:ShapeOk n d):ShapeOk n (gg n d):=k8 h λi c hi hc=>by
 unfold jO;cases he:fZ n d i c with
 |error e=>dsimp only;omega
 |ok v=>
  have:=FG h hd (L:=i) ω (k:=c) (by rw[χ];exact hc) he;dsimp only;omega
noncomputable def bE(n:Net):Nat->Xa
 |0=>qD n (λ_ _=>0)
 |k+1=>gg n (bE n k)
theorem gK{n:Net}(h:NetOk n):∀k,ShapeOk n (bE n k)
 |0=>k8 h λ_ _ _ _=>ω
 |k+1=>pF h (gK h k)
def Sm(G:Nat->Int):Prop:=∃k,k<=8/\Rep G 1 4 k/\∀t,t<5->G t<=8
abbrev rc:Curve:=⟨[0,4,4,4,4],4,4⟩
theorem Sm.of{F G:Nat->Int}(h:Sm F)(e:∀t,G t=F t):Sm G:=by
 rw[show G=F from funext e];exact h
theorem CallSpec.lendG{P:Program}{f:FuncId}{args args':List AV}{r:AV}(L:Xc)(h:CallSpec P f args [] r [])(hr:Fz r=true)(hcl:∀id ob,luL L id=some ob->∀i,NamesO i ob->luL L i≠none)(hlv:∀id ob,luL L id=some ob->ob.live=true)
  (hrel:∀(ρ:Loc) (Im:Nat->Prop) (H:Heap) (xs:Array Value),(∀id ob,luL L id=some ob->ObjCon ρ Im H id ob)->Cons ρ Im H args' xs->Cons ρ (λb=>Im b\/∃id ob,luL L id=some ob/\(ρ id).1=some b) H args xs):CallSpec P f args' L r L:=by
 refine⟨h.enter,hcl,hlv,λw ρ Im xs hmem hx=>?_⟩;have hm1:Mem (cz w (λb=>Im b\/∃id ob,luL L id=some ob/\(ρ id).1=some b) [] ρ 0) ρ (λb=>Im b\/∃id ob,luL L id=some ob/\(ρ id).1=some b) (luL []) w :=
  {objs:=fun j u hj=>by cases hj
   own:=λj u b hj=>by cases hj
   inj:=λj j' u u' b h1=>by cases h1
   ocl:=h.icl
   imlt:=λb hb=>hb.elim (hmem.imlt b) λ⟨id,ob,h1,h2⟩=>(hmem.own id ob b h1 (hlv id ob h1) h2).2.1
   im0:=λb hb=>hb,imf:=λb hb=>.inl hb
   os:=rfl,tape:=rfl,output:=rfl,size:=ξ _,frame:=λ_ _ _=>rfl,pin:=λj hj=>(by cases hj),lrc:=λl r h=>⟨r.state,r.pending,h⟩,rnd:=λl h=>by cases h }
 refine(h.calls w ρ _ xs hm1 (hrel ρ Im w.heap xs hmem.objs hx)).mono λe w'=>?_;rintro⟨y,ρ',Im',rfl,hc,hn,hm⟩;have hfr:∀b,b<w.heap.size->w'.heap[b]? =w.heap[b]?:=λb hb=>hm.frame b hb λi hi=>by cases hi
 have hsz:w.heap.size<=w'.heap.size:=hm.size;refine⟨y,ρ,Im,rfl,F0 hr hc,λi hi=>absurd hi (AE hr i),?_⟩;exact
  {objs:=fun j u hj=>(hmem.objs j u hj).move (fun b hb=>hb) (fun b hb=>hfr b (hmem.imlt b hb)) (fun b hb=>hfr b (hmem.own j _ b hj (hlv j u hj) hb).2.1) rfl fun _ _=>rfl
   own:=λj u b hj hl hb=>by
    obtain⟨h1,h2,h3⟩:=hmem.own j u b hj hl hb;exact⟨h1,Nat.lt_of_lt_of_le h2 hsz,h3⟩
   inj:=hmem.inj
   ocl:=hmem.ocl
   imlt:=λb hb=>Nat.lt_of_lt_of_le (hmem.imlt b hb) hsz,im0:=λb hb=>hb
   imf:=λb hb=>.inl hb
   os:=hm.os,tape:=hm.tape,output:=hm.output,size:=hm.size
   frame:=λb hb _=>hfr b hb
   pin:=λj hj=>⟨rfl,bI.2 hj⟩,lrc:=hm.lrc,rnd:=hm.rnd }
end Go.Nc