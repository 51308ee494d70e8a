/- Parts. -/
import Derived.Test.YtbdkgpcdkalfdaaGreatNdBNB
namespace Go.Nc
open Go.Proofs.Tryz
open Go.Proofs
theorem uK{n:Net}{d:Xa}(o:f7 n d=true){i:Nat}(j:i<n.flows.length):∀x∈(n.flows.getD i default).route,0<=rr d (n.flows.getD i default).class_ x/\0<=rr (fc n d) (n.flows.getD i default).class_ x:=λx a=>by
 obtain⟨⟨⟨h,r⟩,f⟩,p⟩:=cg.1 o;have H:FlowOk n.lines (n.flows.getD i default):=h.flow _ (by simp[j]);have m:=H.lines x a;have b:=H.cls2 x a;have l:=H.cls;have g:=mw j a;obtain⟨L,E⟩:=ζ m.1;obtain⟨c,k⟩:=ζ l;subst E;rw[k]at g b⊢;rw[β]at b;have a:=p.1 L c Z b λe=>by rw[e]at g;cases g
 have a:0<=(d.getD L []).getD c 0:=a;have hb:=Au h r f (L:=L) (C:=c) Z b;have q:=(Ar f (L:=L) Z).2 c (by have:=f.row L Z;omega);refine⟨a,?_⟩;show 0<=((fc n d).getD L []).getD c 0;rw[q];omega
theorem bl_end{n:Net}{d:Xa}(e:f7 n d=true){i:Nat}(H:i<n.flows.length):(∃a,re n d i=some a)/\∃c,re n (fc n d) i=some c:=by
 obtain⟨h,_⟩:=cg.1 e;have f:=uK e H;rw[uD h H,uD ⟨h.1,i8 h.1.1 h.1.2 h.2⟩ H];exact⟨⟨_,(nu _ _ _).2 ⟨λx b=>(f x b).1,rfl⟩⟩,_,(nu _ _ _).2 ⟨λx b=>(f x b).2,rfl⟩⟩
theorem Fi{n:Net}{d:Xa}{i k:Nat}(h:∀x∈(n.flows.getD i default).route,0<=rr d (n.flows.getD i default).class_ x)(H:k<(n.flows.getD i default).route.length):∃l,dd n d i k=.ok l:=by
 have:=h _ (a9 (l:=(n.flows.getD i default).route) (i:=k) H);unfold dd;rw[if_neg (by unfold rr at this;omega)];exact⟨_,rfl⟩
theorem Hj{n:Net}{d:Xa}{i:Nat}{l:List Int}(h:dd n d i 0=.ok l){q:List Int×Curve×List Spl}:q∈pf n d i 1 [] c0 []↔∃o∈l,∃y,ko n d i 0 true o=.ok y/\q=([o],y,[]):=by
 rw[dh (r:=0) (ch:=[]) h,List.mem_flatMap];refine exists_congr λo=>and_congr_right λ_=>?_;unfold gI;rcases e:ko n d i 0 true o with E|y
 .simp[e]
 .simp[e,pf]
theorem Hk{n:Net}{d:Xa}{i:Nat}{l m:List Int}(c:dd n d i 0=.ok l)(H:dd n d i 1=.ok m){q:List Int×Curve×List Spl} :
  q∈pf n d i 2 [] c0 []↔∃o∈l,∃y,ko n d i 0 false o=.ok y/\∃O∈m,∃a p,ko n d i 1 true O=.ok a/\bY y a=.ok p/\q=([o,O],p.res,[p]):=by
 rw[dh (r:=1) (ch:=[]) c,List.mem_flatMap];refine exists_congr λo=>and_congr_right λ_=>?_;rcases e:ko n d i 0 false o with f|y
 .simp[gI,e]
 .have E:gI n d i ([]:List Int).length (1==0) c0 [] o=some (y,[]):=by
   show gI n d i 0 false c0 [] o=_;unfold gI;rw[e];rfl
  rw[E];dsimp only;have H:dd n d i ([o]:List Int).length=.ok m:=by rw[List.length_singleton];exact H
  rw[List.nil_append,dh (r:=0) (ch:=[o]) H,List.mem_flatMap];have:∀P:Curve->Prop,(∃b,Except.ok y=(Except.ok b:Except Int Curve)/\P b)↔P y:=λP=>⟨λ⟨_,e,h⟩=>by cases e;exact h,λh=>⟨_,rfl,h⟩⟩;rw[this];refine exists_congr λO=>and_congr_right λ_=>?_;show(q∈match gI n d i 1 true y [] O with |none=>[]|some z=>pf n d i 0 ([o]++[O]) z.1 z.2)↔_;unfold gI;rcases e2:ko n d i 1 true O with g|a
  .simp
  .dsimp only;rw[if_neg (Z:¬(1=0))];rcases e4:bY y a with j|p
   .simp[e4]
   .simp[e4,pf]
theorem mv{n:Net}{d:Xa}{i:Nat}(o:Int)(z:Curve)(ps:List Spl):gL n d i [o]=.ok (z,ps)↔ko n d i 0 true o=.ok z/\ps=[]:=by
 have e:o5 n d i [o] 0=ko n d i 0 true o:=rfl;unfold gL;show(match(match o5 n d i [o] 0 with |.error e=>Except.error e|.ok z=>.ok ([]++[z]):Except Int (List Curve))with |.error e=>Except.error e|.ok l=>fx (l.getD 0 c0) (l.drop 1) [])=_↔_;rw[e];rcases ko n d i 0 true o with E|y
 .simp
 .simp[fx,eq_comm]
theorem i9{n:Net}{d:Xa}{i:Nat}(o O:Int)(z:Curve)(ps:List Spl):gL n d i [o,O]=.ok (z,ps)↔∃y,ko n d i 0 false o=.ok y/\∃a p,ko n d i 1 true O=.ok a/\bY y a=.ok p/\z=p.res/\ps=[p]:=by
 have e:o5 n d i [o,O] 0=ko n d i 0 false o:=rfl;have b:o5 n d i [o,O] 1=ko n d i 1 true O:=rfl;unfold gL;show(match(match(match o5 n d i [o,O] 0 with |.error e=>Except.error e|.ok z=>.ok ([]++[z]):Except Int (List Curve))with |.error e=>Except.error e|.ok l=>match o5 n d i [o,O] 1 with |.error e=>Except.error e|.ok z=>.ok (l++[z]):Except Int (List Curve))with |.error e=>Except.error e|.ok l=>fx (l.getD 0 c0) (l.drop 1) [])=_↔_;rw[e,b];rcases ko n d i 0 false o with E|y
 .simp
 .rcases ko n d i 1 true O with E|a
  .simp
  .rcases e3:bY y a with c|p
   .simp[fx,e3]
   .simp[fx,e3,eq_comm]
def Ay(n:Net)(d:Xa)(i:Nat)(c:List Int):Prop:=c.length=(n.flows.getD i default).route.length/\∀k,k<c.length->∃l,dd n d i k=.ok l/\c.getD k 0∈l
theorem Hl{n:Net}{d:Xa}{i:Nat}(r:(n.flows.getD i default).route.length=1\/(n.flows.getD i default).route.length=2)(q:∀k,k<(n.flows.getD i default).route.length->∃l,dd n d i k=.ok l){c:List Int}{z:Curve}{ps:List Spl} :
  (c,z,ps)∈pf n d i (n.flows.getD i default).route.length [] c0 []↔Ay n d i c/\gL n d i c=.ok (z,ps):=by
 unfold Ay;rcases r with r|r<;>rw[r]at q⊢
 .obtain⟨l,h⟩:=q 0 Z;rw[Hj h];constructor
  .rintro⟨o,H,y,g,e⟩;cases e;refine⟨⟨rfl,λk t=>?_⟩,(mv _ _ _).2 ⟨g,rfl⟩⟩;obtain rfl:k=0:=by simp at t;omega
   exact⟨l,h,H⟩
  .rintro⟨⟨b,j⟩,s⟩;rcases c with _|⟨o,_|⟨_,_⟩⟩
   .simp at b
   .obtain⟨f,rfl⟩:=(mv _ _ _).1 s;obtain⟨L,e,u⟩:=j 0 ν;rw[h]at e;cases e;exact⟨o,u,z,f,rfl⟩
   .simp at b
 .obtain⟨l,h⟩:=q 0 Z;obtain⟨m,b⟩:=q 1 Z;rw[Hk h b];constructor
  .rintro⟨o,H,y,g,O,w,A,p,a,x,e⟩;cases e;refine⟨⟨rfl,λk t=>?_⟩,(i9 _ _ _ _).2 ⟨y,g,A,p,a,x,rfl,rfl⟩⟩;match k with
   |0=>exact⟨l,h,H⟩
   |1=>exact⟨m,b,w⟩
   |k+2=>simp at t;omega
  .rintro⟨⟨f,j⟩,s⟩;rcases c with _|⟨o,_|⟨O,_|⟨_,_⟩⟩⟩
   .simp at f
   .simp at f
   .obtain⟨y,g,A,p,a,x,rfl,rfl⟩:=(i9 _ _ _ _).1 s;obtain⟨L,e,u⟩:=j 0 ν;obtain⟨B,E,v⟩:=j 1 ν;rw[h]at e;rw[b]at E;cases e;cases E;exact⟨o,u,y,g,O,v,A,p,a,x,rfl⟩
   .simp at f
instance:Inhabited eh:=⟨(nT,[])⟩
theorem iA(n:Net)(d:Xa)(h:pt n d):q0e 31 [n.av,aF d] (.bool (f7 n d)):=by
 obtain⟨b,hb,p⟩:=GV n d h.1.1 h.1.2 h.2;rw[sV h hb]at p;exact p
end Go.Nc