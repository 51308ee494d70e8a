/- Parts. -/
import Derived.Test.YtbdkgpcdkalfdaaGreatNdUA
import Derived.Test.YtbdkgpcdkalfdaaGreatNdRAA
namespace Go.Nc
open Go.Proofs
theorem KM{p:Nat->Prop}(h:p 0)(H:p 1):∀i,i<2->p i:=λi a=>by
 match i with
 |0=>exact h
 |1=>exact H
 |i+2=>omega
theorem qm{n:Net}(h:NetOk n)(F:Nat->Nat->Int):DimOk n (rp n F):=by
 refine⟨iz n F,λi H=>?_⟩;have a:=(h.line (n.lines.getD i default) (by rw[γ,υ H];exact List.getElem_mem _)).cls;rw[gF n F H,iK];omega
theorem kK{n:Net}(h:NetOk n){F:Nat->Nat->Int}(a:∀i c:Nat,i<n.lines.length->(c:Int)<(n.lines.getD i default).classes-> -1<=F i c/\F i c<=400):ShapeOk n (rp n F):=by
 refine⟨(qm h F).len,(qm h F).row,λi j H b=>?_⟩;have d:=(qm h F).row i H;have:=a i j H Z;rw[gF n F H,lR n F Z];exact this
theorem kL{n:Net}(h:NetOk n){d:Xa}(a:ShapeOk n d):ShapeOk n (fO n d):=kK h λi c b H=>by
 unfold jZ;cases he:gD n d i c with
 |error e=>dsimp only;omega
 |ok v=>
  have:=G0 h a (L:=i) Z (k:=c) (by rw[β];exact H) he;dsimp only;omega
noncomputable def bM(n:Net):Nat->Xa
 |0=>rp n (λ_ _=>0)
 |k+1=>fO n (bM n k)
theorem j3{n:Net}(h:NetOk n):∀k,ShapeOk n (bM n k)
 |0=>kK h λ_ _ _ _=>Z
 |k+1=>kL h (j3 h k)
def Sm(G:Nat->Int):Prop:=∃k,k<=8/\Rep G 1 4 k/\∀t,t<5->G t<=8
abbrev rc:Curve:=⟨[0,4,4,4,4],4,4⟩
theorem Sm.of{F G:Nat->Int}(h:Sm F)(e:∀t,G t=F t):Sm G:=by
 rw[show G=F from funext e];exact h
theorem CallSpec.lendG{P:Program}{f:FuncId}{args A:List AV}{r:AV}(L:Xc)(h:CallSpec P f args [] r [])(t:Gi r=true)(hcl:∀id ob,e7 L id=some ob->∀i,NamesO i ob->e7 L i≠none)(k:∀id ob,e7 L id=some ob->ob.live=true)
  (n:∀(ρ:Loc) (Im:Nat->Prop) (H:eZ) (x:Array Value),(∀id ob,e7 L id=some ob->ObjCon ρ Im H id ob)->Cons ρ Im H A x->Cons ρ (λb=>Im b\/∃id ob,e7 L id=some ob/\(ρ id).1=some b) H args x):CallSpec P f A L r L:=by
 refine⟨h.enter,hcl,k,λw ρ Im x a C=>?_⟩;have s:Mem (cG w (λb=>Im b\/∃id ob,e7 L id=some ob/\(ρ id).1=some b) [] ρ 0) ρ (λb=>Im b\/∃id ob,e7 L id=some ob/\(ρ id).1=some b) (e7 []) w :=
  {objs:=fun j u c=>by cases c
   own:=λj u b c=>by cases c
   inj:=λj F u G b m=>by cases m
   ocl:=h.icl
   imlt:=λb hb=>hb.elim (a.imlt b) λ⟨id,ob,m,p⟩=>(a.own id ob b m (k id ob m) p).2.1
   im0:=λb hb=>hb,imf:=λb hb=>.inl hb
   os:=rfl,tape:=rfl,output:=rfl,size:=π _,frame:=λ_ _ _=>rfl,pin:=λj c=>(by cases c),lrc:=λl r h=>⟨r.state,r.pending,h⟩,rnd:=λl h=>by cases h }
 refine(h.calls w ρ _ x s (n ρ Im w.heap x a.objs C)).mono λe W=>?_;rintro⟨y,D,I,rfl,z,E,d⟩;have g:∀b,b<w.heap.size->W.heap[b]? =w.heap[b]?:=λb hb=>d.frame b hb λi q=>by cases q
 have o:w.heap.size<=W.heap.size:=d.size;refine⟨y,ρ,Im,rfl,Gj t z,λi q=>absurd q (Br t i),?_⟩;exact
  {objs:=fun j u c=>(a.objs j u c).move (fun b hb=>hb) (fun b hb=>g b (a.imlt b hb)) (fun b hb=>g b (a.own j _ b c (k j u c) hb).2.1) rfl fun _ _=>rfl
   own:=λj u b c B hb=>by
    obtain⟨m,p,v⟩:=a.own j u b c B hb;exact⟨m,Nat.lt_of_lt_of_le p o,v⟩
   inj:=a.inj
   ocl:=a.ocl
   imlt:=λb hb=>Nat.lt_of_lt_of_le (a.imlt b hb) o,im0:=λb hb=>hb
   imf:=λb hb=>.inl hb
   os:=d.os,tape:=d.tape,output:=d.output,size:=d.size
   frame:=λb hb _=>g b hb
   pin:=λj c=>⟨rfl,bJ.2 c⟩,lrc:=d.lrc,rnd:=d.rnd }
theorem lt1{p:Nat->Prop}(h:p 0):∀i,i<1->p i:=λi H=>by
 obtain rfl:i=0:=Z;exact h
end Go.Nc