/- The types of the seat, and the table of their sizes and zero values. -/
import Derived.Test.YtdkcmppdckkofaaGreatNcL
import Derived.Test.YtdkcmppdckkofaaGreatProg
import Derived.KernelRfl
open Go Go.Nc Go.Proofs
namespace Go.Nc
def ti3:TI:=⟨.int .i64,1,8,[.int .i64 0],[]⟩
def ti39:TI:=⟨.struct,3,40,[.nils,.int .i64 0,.int .i64 0],[(0,1),(1,1),(2,1)]⟩
def ti22:TI:=⟨.slice 3,1,24,[.nils],[]⟩
def ti31:TI:=⟨.struct,3,72,[.nils,.nils,.nils],[(0,1),(1,1),(2,1)]⟩
def ti42:TI:=⟨.int .i64,1,8,[.int .i64 0],[]⟩
def ti35:TI:=⟨.struct,5,72,[.int .i64 0,.int .i64 0,.int .i64 0,.nils,.nils],[(0,1),(1,1),(2,1),(3,1),(4,1)]⟩
def ti41:TI:=⟨.struct,8,104,[.str ByteArray.empty,.nils,.int .i64 0,.int .i64 0,.int .i64 0,.nils,.int .i64 0,.int .i64 0],[(0,1),(1,1),(2,1),(3,2),(5,3)]⟩
def ti46:TI:=⟨.slice 22,1,24,[.nils],[]⟩
def ti4:TI:=⟨.bool,1,1,[.bool false],[]⟩
def ti135:TI:=⟨.struct,3,24,[.bool false,.int .i64 0,.int .i64 0],[(0,1),(1,1),(2,1)]⟩
def ti28:TI:=⟨.slice 35,1,24,[.nils],[]⟩
def ti29:TI:=⟨.slice 41,1,24,[.nils],[]⟩
def ti37:TI:=⟨.struct,2,16,[.int .i64 0,.int .i64 0],[(0,1),(1,1)]⟩
def ti105:TI:=⟨.struct,2,16,[.int .i64 0,.int .i64 0],[(0,1),(1,1)]⟩
def ti131:TI:=⟨.slice 37,1,24,[.nils],[]⟩
def ti27:TI:=⟨.slice 9,1,24,[.nils],[]⟩
def ti241:TI:=⟨.struct,9,104,[.nils,.int .i64 0,.int .i64 0,.nils,.int .i64 0,.int .i64 0,.int .i64 0,.int .i64 0,.int .i64 0],[(0,3),(3,3),(6,1),(7,1),(8,1)]⟩
def ti61:TI:=⟨.arr 4 3,4,32,[.int .i64 0,.int .i64 0,.int .i64 0,.int .i64 0],[]⟩
def ti9:TI:=⟨.str,1,16,[.str ByteArray.empty],[]⟩
def ti5:TI:=⟨.int .u8,1,1,[.int .u8 0],[]⟩
def ti175:TI:=⟨.struct,8,96,[.nils,.int .i64 0,.int .i64 0,.nils,.int .i64 0,.int .i64 0,.int .i64 0,.bool false],[(0,3),(3,3),(6,1),(7,1)]⟩
def ti76:TI:=⟨.slice 39,1,24,[.nils],[]⟩
def ti85:TI:=⟨.arr 3 3,3,24,[.int .i64 0,.int .i64 0,.int .i64 0],[]⟩
def ti166:TI:=⟨.struct,7,88,[.nils,.int .i64 0,.int .i64 0,.nils,.int .i64 0,.int .i64 0,.int .i64 0],[(0,3),(3,3),(6,1)]⟩
def ti146:TI:=⟨.slice 4,1,24,[.nils],[]⟩
def ti72:TI:=⟨.arr 2 3,2,16,[.int .i64 0,.int .i64 0],[]⟩
def ti100:TI:=⟨.struct,2,32,[.nils,.int .i64 0],[(0,1),(1,1)]⟩
def ti87:TI:=⟨.arr 2 46,2,48,[.nils,.nils],[]⟩
def ti220:TI:=⟨.map 3 194,1,8,[.nmap],[]⟩
def ti60:TI:=⟨.arr 3 46,3,72,[.nils,.nils,.nils],[]⟩
def ti185:TI:=⟨.slice 146,1,24,[.nils],[]⟩
def ti45:TI:=⟨.slice 22,1,24,[.nils],[]⟩
def ti144:TI:=⟨.slice 72,1,24,[.nils],[]⟩
def ti82:TI:=⟨.arr 3 31,9,216,[.nils,.nils,.nils,.nils,.nils,.nils,.nils,.nils,.nils],[]⟩
def ti154:TI:=⟨.map 9 4,1,8,[.nmap],[]⟩
def ti62:TI:=⟨.other,1,8,[.nfunc],[]⟩
def ti215:TI:=⟨.struct,0,0,[],[]⟩
def ti216:TI:=⟨.struct,0,0,[],[]⟩
def ti217:TI:=⟨.struct,0,0,[],[]⟩
def ti218:TI:=⟨.struct,0,0,[],[]⟩
def ti219:TI:=⟨.struct,0,0,[],[]⟩
def ti250:TI:=⟨.slice 3,1,24,[.nils],[]⟩
def ti23:TI:=⟨.slice 5,1,24,[.nils],[]⟩
def ti190:TI:=⟨.arr 8 189,64,64,List.replicate 64 (.bool false),[]⟩
def ti197:TI:=⟨.map 3 4,1,8,[.nmap],[]⟩
def ti58:TI:=⟨.arr 2 31,6,144,[.nils,.nils,.nils,.nils,.nils,.nils],[]⟩
def ti63:TI:=⟨.arr 2 61,8,64,[.int .i64 0,.int .i64 0,.int .i64 0,.int .i64 0,.int .i64 0,.int .i64 0,.int .i64 0,.int .i64 0],[]⟩
def ti95:TI:=⟨.arr 2 85,6,48,[.int .i64 0,.int .i64 0,.int .i64 0,.int .i64 0,.int .i64 0,.int .i64 0],[]⟩
def ti137:TI:=⟨.other,1,8,[.nfunc],[]⟩
def ti189:TI:=⟨.arr 8 4,8,8,[.bool false,.bool false,.bool false,.bool false,.bool false,.bool false,.bool false,.bool false],[]⟩
def ti75:TI:=⟨.int .u16,1,2,[.int .u16 0],[]⟩
def ti25:TI:=⟨.other,1,8,[.nptr],[]⟩
def ti182:TI:=⟨.other,1,8,[.nfunc],[]⟩
def ti33:TI:=⟨.other,1,8,[.nfunc],[]⟩
def ti180:TI:=⟨.other,1,8,[.nfunc],[]⟩
def ti139:TI:=⟨.other,1,8,[.nfunc],[]⟩
def ti245:TI:=⟨.other,1,8,[.nfunc],[]⟩
def ti194:TI:=⟨.other,1,16,[.niface],[]⟩
def T:Tab:=[(3,ti3),(39,ti39),(22,ti22),(31,ti31),(42,ti42),(35,ti35),(41,ti41),(46,ti46),(4,ti4),(135,ti135),(28,ti28),(29,ti29),(37,ti37),(105,ti105),(131,ti131),(27,ti27),(241,ti241),(61,ti61),(9,ti9),(5,ti5),(175,ti175),(76,ti76),(85,ti85),(166,ti166),(146,ti146),(72,ti72),(100,ti100),(87,ti87),(220,ti220),(60,ti60),(185,ti185),(45,ti45),(144,ti144),(82,ti82),(154,ti154),(62,ti62),(215,ti215),(216,ti216),(217,ti217),(218,ti218),(219,ti219),(250,ti250),(23,ti23),(190,ti190),(197,ti197),(58,ti58),(63,ti63),(95,ti95),(137,ti137),(189,ti189),(75,ti75),(25,ti25),(182,ti182),(33,ti33),(180,ti180),(139,ti139),(245,ti245),(194,ti194)]
def TokP (P:Program) (t:Nat) (i:TI):Prop:=((P.underlying t).map fun d=>(TK.of d,uI P d)) = some (i.tk,i.flds)/\(P.info? t).map (fun i=>(i.size,i.bytes,i.zero.map fun z=>(z.cells.toList,qI z))) = some (i.size,i.bytes,some (i.zero.map AV.conc,i.agg))/\i.zero.all AV.plain = true/\i.zero.length = i.size
theorem tkI {P:Program} {t:Nat} {i:TI} (h1:((P.underlying t).map fun d=>(TK.of d,uI P d)) = some (i.tk,i.flds):=by kernel_rfl) (h2:(P.info? t).map (fun i=>(i.size,i.bytes,i.zero.map fun z=>(z.cells.toList,qI z))) = some (i.size,i.bytes,some (i.zero.map AV.conc,i.agg)):=by kernel_rfl) (h3:i.zero.all AV.plain = true:=by rfl) (h4:i.zero.length = i.size:=by rfl):TokP P t i:=⟨h1,h2,h3,h4⟩
theorem tok3:TokP Tryz.prog 3 ti3:=tkI
theorem tok39:TokP Tryz.prog 39 ti39:=tkI
theorem tok22:TokP Tryz.prog 22 ti22:=tkI
theorem tok31:TokP Tryz.prog 31 ti31:=tkI
theorem tok42:TokP Tryz.prog 42 ti42:=tkI
theorem tok35:TokP Tryz.prog 35 ti35:=tkI
theorem tok41:TokP Tryz.prog 41 ti41:=tkI
theorem tok46:TokP Tryz.prog 46 ti46:=tkI
theorem tok4:TokP Tryz.prog 4 ti4:=tkI
theorem tok135:TokP Tryz.prog 135 ti135:=tkI
theorem tok28:TokP Tryz.prog 28 ti28:=tkI
theorem tok29:TokP Tryz.prog 29 ti29:=tkI
theorem tok37:TokP Tryz.prog 37 ti37:=tkI
theorem tok105:TokP Tryz.prog 105 ti105:=tkI
theorem tok131:TokP Tryz.prog 131 ti131:=tkI
theorem tok27:TokP Tryz.prog 27 ti27:=tkI
theorem tok241:TokP Tryz.prog 241 ti241:=tkI
theorem tok61:TokP Tryz.prog 61 ti61:=tkI
theorem tok9:TokP Tryz.prog 9 ti9:=tkI
theorem tok5:TokP Tryz.prog 5 ti5:=tkI
theorem tok175:TokP Tryz.prog 175 ti175:=tkI
theorem tok76:TokP Tryz.prog 76 ti76:=tkI
theorem tok85:TokP Tryz.prog 85 ti85:=tkI
theorem tok166:TokP Tryz.prog 166 ti166:=tkI
theorem tok146:TokP Tryz.prog 146 ti146:=tkI
theorem tok72:TokP Tryz.prog 72 ti72:=tkI
theorem tok100:TokP Tryz.prog 100 ti100:=tkI
theorem tok87:TokP Tryz.prog 87 ti87:=tkI
theorem tok220:TokP Tryz.prog 220 ti220:=tkI
theorem tok60:TokP Tryz.prog 60 ti60:=tkI
theorem tok185:TokP Tryz.prog 185 ti185:=tkI
theorem tok45:TokP Tryz.prog 45 ti45:=tkI
theorem tok144:TokP Tryz.prog 144 ti144:=tkI
theorem tok82:TokP Tryz.prog 82 ti82:=tkI
theorem tok154:TokP Tryz.prog 154 ti154:=tkI
theorem tok62:TokP Tryz.prog 62 ti62:=tkI
theorem tok215:TokP Tryz.prog 215 ti215:=tkI
theorem tok216:TokP Tryz.prog 216 ti216:=tkI
theorem tok217:TokP Tryz.prog 217 ti217:=tkI
theorem tok218:TokP Tryz.prog 218 ti218:=tkI
theorem tok219:TokP Tryz.prog 219 ti219:=tkI
theorem tok250:TokP Tryz.prog 250 ti250:=tkI
theorem tok23:TokP Tryz.prog 23 ti23:=tkI
theorem tok190:TokP Tryz.prog 190 ti190:=tkI
theorem tok197:TokP Tryz.prog 197 ti197:=tkI
theorem tok58:TokP Tryz.prog 58 ti58:=tkI
theorem tok63:TokP Tryz.prog 63 ti63:=tkI
theorem tok95:TokP Tryz.prog 95 ti95:=tkI
theorem tok137:TokP Tryz.prog 137 ti137:=tkI
theorem tok189:TokP Tryz.prog 189 ti189:=tkI
theorem tok75:TokP Tryz.prog 75 ti75:=tkI
theorem tok25:TokP Tryz.prog 25 ti25:=tkI
theorem tok182:TokP Tryz.prog 182 ti182:=tkI
theorem tok33:TokP Tryz.prog 33 ti33:=tkI
theorem tok180:TokP Tryz.prog 180 ti180:=tkI
theorem tok139:TokP Tryz.prog 139 ti139:=tkI
theorem tok245:TokP Tryz.prog 245 ti245:=tkI
theorem tok194:TokP Tryz.prog 194 ti194:=tkI
theorem aF:bS Tryz.prog T:=qJ ⟨tok3,tok39,tok22,tok31,tok42,tok35,tok41,tok46,tok4,tok135,tok28,tok29,tok37,tok105,tok131,tok27,tok241,tok61,tok9,tok5,tok175,tok76,tok85,tok166,tok146,tok72,tok100,tok87,tok220,tok60,tok185,tok45,tok144,tok82,tok154,tok62,tok215,tok216,tok217,tok218,tok219,tok250,tok23,tok190,tok197,tok58,tok63,tok95,tok137,tok189,tok75,tok25,tok182,tok33,tok180,tok139,tok245,tok194,trivial⟩
theorem xO:Tryz.prog.follows .mixedOrders = true:=by kernel_rfl
end Go.Nc
namespace Go.Nc
open Go.Proofs
theorem gv {X:Frm} {c:Code} {A:St} {K:Exit -> St -> Prop} (h:vc Tryz.prog T X c A K):GoodS Tryz.prog X c A K:=tm xO aF h
end Go.Nc
