/- The seat's tables for the interpreter: the functions that it may yl, the methods behind interfaces. -/
import Derived.Test.YtdkcmppdckkofaaGreatNcX5
import Derived.Test.YtdkcmppdckkofaaGreatNcNt
import Derived.Test.YtdkcmppdckkofaaGreatNcS
namespace Go.Nc
open Go.Proofs
@[irreducible] noncomputable def nmOf (k:Nat):String:=match Tryz.prog.types[215]? with
 | some t=>(match t.methods[k]? with | some m=>m.name | none=>default)
 | none=>default
noncomputable def MT:MTab:=fun t name=>if name = nmOf 0 then luF [(215,265),(216,269),(217,279),(218,294),(219,304)] t
 else if name = nmOf 1 then luF [(215,266),(216,270),(217,280),(218,295),(219,305)] t else none
theorem ju (w:World):(method (Tryz.prog.types.size + Made.depth) 215 (.agg #[]) (nmOf 0)).run Tryz.prog w = .ok (265,.agg #[]) w:=by kernel_rfl
theorem jv (w:World):(method (Tryz.prog.types.size + Made.depth) 216 (.agg #[]) (nmOf 0)).run Tryz.prog w = .ok (269,.agg #[]) w:=by kernel_rfl
theorem jw (w:World):(method (Tryz.prog.types.size + Made.depth) 217 (.agg #[]) (nmOf 0)).run Tryz.prog w = .ok (279,.agg #[]) w:=by kernel_rfl
theorem jx (w:World):(method (Tryz.prog.types.size + Made.depth) 218 (.agg #[]) (nmOf 0)).run Tryz.prog w = .ok (294,.agg #[]) w:=by kernel_rfl
theorem jy (w:World):(method (Tryz.prog.types.size + Made.depth) 219 (.agg #[]) (nmOf 0)).run Tryz.prog w = .ok (304,.agg #[]) w:=by kernel_rfl
theorem jz (w:World):(method (Tryz.prog.types.size + Made.depth) 215 (.agg #[]) (nmOf 1)).run Tryz.prog w = .ok (266,.agg #[]) w:=by kernel_rfl
theorem j1 (w:World):(method (Tryz.prog.types.size + Made.depth) 216 (.agg #[]) (nmOf 1)).run Tryz.prog w = .ok (270,.agg #[]) w:=by kernel_rfl
theorem j2 (w:World):(method (Tryz.prog.types.size + Made.depth) 217 (.agg #[]) (nmOf 1)).run Tryz.prog w = .ok (280,.agg #[]) w:=by kernel_rfl
theorem j3 (w:World):(method (Tryz.prog.types.size + Made.depth) 218 (.agg #[]) (nmOf 1)).run Tryz.prog w = .ok (295,.agg #[]) w:=by kernel_rfl
theorem j4 (w:World):(method (Tryz.prog.types.size + Made.depth) 219 (.agg #[]) (nmOf 1)).run Tryz.prog w = .ok (305,.agg #[]) w:=by kernel_rfl
theorem cr {α:Type} {k:Nat} {v x:α} {r:List (Nat × α)} {n:Nat} (h:luF ((k,v) :: r) n = some x):(n = k/\v = x) \/ luF r n = some x:=by
 simp only [luF] at h
 split at h
 ·rename_i hb
  simp only [Option.some.injEq] at h
  exact .inl ⟨Nat.eq_of_beq_eq_true hb,h⟩
 ·exact .inr h
theorem mOk:MOk Tryz.prog MT:=by
 intro t name f h w
 unfold MT at h
 split at h
 ·rename_i hn
  subst hn
  rcases cr h with ⟨rfl,rfl⟩ | h
  ·exact ju w
  rcases cr h with ⟨rfl,rfl⟩ | h
  ·exact jv w
  rcases cr h with ⟨rfl,rfl⟩ | h
  ·exact jw w
  rcases cr h with ⟨rfl,rfl⟩ | h
  ·exact jx w
  rcases cr h with ⟨rfl,rfl⟩ | h
  ·exact jy w
  cases h
 ·split at h
  ·rename_i hn
   subst hn
   rcases cr h with ⟨rfl,rfl⟩ | h
   ·exact jz w
   rcases cr h with ⟨rfl,rfl⟩ | h
   ·exact j1 w
   rcases cr h with ⟨rfl,rfl⟩ | h
   ·exact j2 w
   rcases cr h with ⟨rfl,rfl⟩ | h
   ·exact j3 w
   rcases cr h with ⟨rfl,rfl⟩ | h
   ·exact j4 w
   cases h
  ·cases h
noncomputable def ftab:List (Nat × Func):=[(15,Tryz.f15),(21,Tryz.f21),(22,Tryz.f22),(24,Tryz.f24),(26,Tryz.f26),(31,Tryz.f31),(33,Tryz.f33),(35,Tryz.f35),(38,Tryz.f38),(40,Tryz.f40),(42,Tryz.f42),(43,Tryz.f43),(47,Tryz.f47),(50,Tryz.f50),(58,Tryz.f58),(59,Tryz.f59),(61,Tryz.f61),(62,Tryz.f62),(64,Tryz.f64),(65,Tryz.f65),(69,Tryz.f69),(70,Tryz.f70),(72,Tryz.f72),(78,Tryz.f78),(79,Tryz.f79),(80,Tryz.f80),(81,Tryz.f81),(82,Tryz.f82),(83,Tryz.f83),(84,Tryz.f84),(91,Tryz.f91),(92,Tryz.f92),(93,Tryz.f93),(94,Tryz.f94),(95,Tryz.f95),(96,Tryz.f96),(97,Tryz.f97),(103,Tryz.f103),(104,Tryz.f104),(109,Tryz.f109),(110,Tryz.f110),(112,Tryz.f112),(119,Tryz.f119),(120,Tryz.f120),(121,Tryz.f121),(122,Tryz.f122),(123,Tryz.f123),(124,Tryz.f124),(125,Tryz.f125),(128,Tryz.f128),(129,Tryz.f129),(131,Tryz.f131),(139,Tryz.f139),(140,Tryz.f140),(141,Tryz.f141),(142,Tryz.f142),(143,Tryz.f143),(144,Tryz.f144),(145,Tryz.f145),(146,Tryz.f146),(147,Tryz.f147),(148,Tryz.f148),(149,Tryz.f149),(150,Tryz.f150),(151,Tryz.f151),(152,Tryz.f152),(153,Tryz.f153),(154,Tryz.f154),(159,Tryz.f159),(160,Tryz.f160),(161,Tryz.f161),(162,Tryz.f162),(163,Tryz.f163),(164,Tryz.f164),(165,Tryz.f165),(166,Tryz.f166),(167,Tryz.f167),(168,Tryz.f168),(169,Tryz.f169),(170,Tryz.f170),(182,Tryz.f182),(183,Tryz.f183),(184,Tryz.f184),(185,Tryz.f185),(190,Tryz.f190),(191,Tryz.f191),(192,Tryz.f192),(193,Tryz.f193),(195,Tryz.f195),(196,Tryz.f196),(197,Tryz.f197),(202,Tryz.f202),(203,Tryz.f203),(204,Tryz.f204),(205,Tryz.f205),(206,Tryz.f206),(207,Tryz.f207),(208,Tryz.f208),(209,Tryz.f209),(210,Tryz.f210),(213,Tryz.f213),(214,Tryz.f214),(215,Tryz.f215),(216,Tryz.f216),(233,Tryz.f233),(234,Tryz.f234),(235,Tryz.f235),(236,Tryz.f236),(237,Tryz.f237),(239,Tryz.f239),(241,Tryz.f241),(242,Tryz.f242),(247,Tryz.f247),(248,Tryz.f248),(265,Tryz.f265),(266,Tryz.f266),(268,Tryz.f268),(269,Tryz.f269),(270,Tryz.f270),(272,Tryz.f272),(273,Tryz.f273),(274,Tryz.f274),(275,Tryz.f275),(276,Tryz.f276),(277,Tryz.f277),(278,Tryz.f278),(279,Tryz.f279),(280,Tryz.f280),(282,Tryz.f282),(283,Tryz.f283),(284,Tryz.f284),(285,Tryz.f285),(286,Tryz.f286),(287,Tryz.f287),(288,Tryz.f288),(289,Tryz.f289),(290,Tryz.f290),(291,Tryz.f291),(292,Tryz.f292),(293,Tryz.f293),(294,Tryz.f294),(295,Tryz.f295),(297,Tryz.f297),(298,Tryz.f298),(299,Tryz.f299),(300,Tryz.f300),(301,Tryz.f301),(302,Tryz.f302),(303,Tryz.f303),(304,Tryz.f304),(305,Tryz.f305),(307,Tryz.f307),(308,Tryz.f308),(309,Tryz.f309),(310,Tryz.f310),(311,Tryz.f311),(312,Tryz.f312),(313,Tryz.f313),(314,Tryz.f314)]
theorem fChk:FChk Tryz.prog ftab:=⟨⟨Tryz.func15,by kernel_rfl,by kernel_rfl⟩,⟨Tryz.func21,by kernel_rfl,by kernel_rfl⟩,⟨Tryz.func22,by kernel_rfl,by kernel_rfl⟩,⟨Tryz.func24,by kernel_rfl,by kernel_rfl⟩,⟨Tryz.func26,by kernel_rfl,by kernel_rfl⟩,⟨Tryz.func31,by kernel_rfl,by kernel_rfl⟩,⟨Tryz.func33,by kernel_rfl,by kernel_rfl⟩,⟨Tryz.func35,by kernel_rfl,by kernel_rfl⟩,⟨Tryz.func38,by kernel_rfl,by kernel_rfl⟩,⟨Tryz.func40,by kernel_rfl,by kernel_rfl⟩,⟨Tryz.func42,by kernel_rfl,by kernel_rfl⟩,⟨Tryz.func43,by kernel_rfl,by kernel_rfl⟩,⟨Tryz.func47,by kernel_rfl,by kernel_rfl⟩,⟨Tryz.func50,by kernel_rfl,by kernel_rfl⟩,⟨Tryz.func58,by kernel_rfl,by kernel_rfl⟩,⟨Tryz.func59,by kernel_rfl,by kernel_rfl⟩,⟨Tryz.func61,by kernel_rfl,by kernel_rfl⟩,⟨Tryz.func62,by kernel_rfl,by kernel_rfl⟩,⟨Tryz.func64,by kernel_rfl,by kernel_rfl⟩,⟨Tryz.func65,by kernel_rfl,by kernel_rfl⟩,⟨Tryz.func69,by kernel_rfl,by kernel_rfl⟩,⟨Tryz.func70,by kernel_rfl,by kernel_rfl⟩,⟨Tryz.func72,by kernel_rfl,by kernel_rfl⟩,⟨Tryz.func78,by kernel_rfl,by kernel_rfl⟩,⟨Tryz.func79,by kernel_rfl,by kernel_rfl⟩,⟨Tryz.func80,by kernel_rfl,by kernel_rfl⟩,⟨Tryz.func81,by kernel_rfl,by kernel_rfl⟩,⟨Tryz.func82,by kernel_rfl,by kernel_rfl⟩,⟨Tryz.func83,by kernel_rfl,by kernel_rfl⟩,⟨Tryz.func84,by kernel_rfl,by kernel_rfl⟩,⟨Tryz.func91,by kernel_rfl,by kernel_rfl⟩,⟨Tryz.func92,by kernel_rfl,by kernel_rfl⟩,⟨Tryz.func93,by kernel_rfl,by kernel_rfl⟩,⟨Tryz.func94,by kernel_rfl,by kernel_rfl⟩,⟨Tryz.func95,by kernel_rfl,by kernel_rfl⟩,⟨Tryz.func96,by kernel_rfl,by kernel_rfl⟩,⟨Tryz.func97,by kernel_rfl,by kernel_rfl⟩,⟨Tryz.func103,by kernel_rfl,by kernel_rfl⟩,⟨Tryz.func104,by kernel_rfl,by kernel_rfl⟩,⟨Tryz.func109,by kernel_rfl,by kernel_rfl⟩,⟨Tryz.func110,by kernel_rfl,by kernel_rfl⟩,⟨Tryz.func112,by kernel_rfl,by kernel_rfl⟩,⟨Tryz.func119,by kernel_rfl,by kernel_rfl⟩,⟨Tryz.func120,by kernel_rfl,by kernel_rfl⟩,⟨Tryz.func121,by kernel_rfl,by kernel_rfl⟩,⟨Tryz.func122,by kernel_rfl,by kernel_rfl⟩,⟨Tryz.func123,by kernel_rfl,by kernel_rfl⟩,⟨Tryz.func124,by kernel_rfl,by kernel_rfl⟩,⟨Tryz.func125,by kernel_rfl,by kernel_rfl⟩,⟨Tryz.func128,by kernel_rfl,by kernel_rfl⟩,⟨Tryz.func129,by kernel_rfl,by kernel_rfl⟩,⟨Tryz.func131,by kernel_rfl,by kernel_rfl⟩,⟨Tryz.func139,by kernel_rfl,by kernel_rfl⟩,⟨Tryz.func140,by kernel_rfl,by kernel_rfl⟩,⟨Tryz.func141,by kernel_rfl,by kernel_rfl⟩,⟨Tryz.func142,by kernel_rfl,by kernel_rfl⟩,⟨Tryz.func143,by kernel_rfl,by kernel_rfl⟩,⟨Tryz.func144,by kernel_rfl,by kernel_rfl⟩,⟨Tryz.func145,by kernel_rfl,by kernel_rfl⟩,⟨Tryz.func146,by kernel_rfl,by kernel_rfl⟩,⟨Tryz.func147,by kernel_rfl,by kernel_rfl⟩,⟨Tryz.func148,by kernel_rfl,by kernel_rfl⟩,⟨Tryz.func149,by kernel_rfl,by kernel_rfl⟩,⟨Tryz.func150,by kernel_rfl,by kernel_rfl⟩,⟨Tryz.func151,by kernel_rfl,by kernel_rfl⟩,⟨Tryz.func152,by kernel_rfl,by kernel_rfl⟩,⟨Tryz.func153,by kernel_rfl,by kernel_rfl⟩,⟨Tryz.func154,by kernel_rfl,by kernel_rfl⟩,⟨Tryz.func159,by kernel_rfl,by kernel_rfl⟩,⟨Tryz.func160,by kernel_rfl,by kernel_rfl⟩,⟨Tryz.func161,by kernel_rfl,by kernel_rfl⟩,⟨Tryz.func162,by kernel_rfl,by kernel_rfl⟩,⟨Tryz.func163,by kernel_rfl,by kernel_rfl⟩,⟨Tryz.func164,by kernel_rfl,by kernel_rfl⟩,⟨Tryz.func165,by kernel_rfl,by kernel_rfl⟩,⟨Tryz.func166,by kernel_rfl,by kernel_rfl⟩,⟨Tryz.func167,by kernel_rfl,by kernel_rfl⟩,⟨Tryz.func168,by kernel_rfl,by kernel_rfl⟩,⟨Tryz.func169,by kernel_rfl,by kernel_rfl⟩,⟨Tryz.func170,by kernel_rfl,by kernel_rfl⟩,⟨Tryz.func182,by kernel_rfl,by kernel_rfl⟩,⟨Tryz.func183,by kernel_rfl,by kernel_rfl⟩,⟨Tryz.func184,by kernel_rfl,by kernel_rfl⟩,⟨Tryz.func185,by kernel_rfl,by kernel_rfl⟩,⟨Tryz.func190,by kernel_rfl,by kernel_rfl⟩,⟨Tryz.func191,by kernel_rfl,by kernel_rfl⟩,⟨Tryz.func192,by kernel_rfl,by kernel_rfl⟩,⟨Tryz.func193,by kernel_rfl,by kernel_rfl⟩,⟨Tryz.func195,by kernel_rfl,by kernel_rfl⟩,⟨Tryz.func196,by kernel_rfl,by kernel_rfl⟩,⟨Tryz.func197,by kernel_rfl,by kernel_rfl⟩,⟨Tryz.func202,by kernel_rfl,by kernel_rfl⟩,⟨Tryz.func203,by kernel_rfl,by kernel_rfl⟩,⟨Tryz.func204,by kernel_rfl,by kernel_rfl⟩,⟨Tryz.func205,by kernel_rfl,by kernel_rfl⟩,⟨Tryz.func206,by kernel_rfl,by kernel_rfl⟩,⟨Tryz.func207,by kernel_rfl,by kernel_rfl⟩,⟨Tryz.func208,by kernel_rfl,by kernel_rfl⟩,⟨Tryz.func209,by kernel_rfl,by kernel_rfl⟩,⟨Tryz.func210,by kernel_rfl,by kernel_rfl⟩,⟨Tryz.func213,by kernel_rfl,by kernel_rfl⟩,⟨Tryz.func214,by kernel_rfl,by kernel_rfl⟩,⟨Tryz.func215,by kernel_rfl,by kernel_rfl⟩,⟨Tryz.func216,by kernel_rfl,by kernel_rfl⟩,⟨Tryz.func233,by kernel_rfl,by kernel_rfl⟩,⟨Tryz.func234,by kernel_rfl,by kernel_rfl⟩,⟨Tryz.func235,by kernel_rfl,by kernel_rfl⟩,⟨Tryz.func236,by kernel_rfl,by kernel_rfl⟩,⟨Tryz.func237,by kernel_rfl,by kernel_rfl⟩,⟨Tryz.func239,by kernel_rfl,by kernel_rfl⟩,⟨Tryz.func241,by kernel_rfl,by kernel_rfl⟩,⟨Tryz.func242,by kernel_rfl,by kernel_rfl⟩,⟨Tryz.func247,by kernel_rfl,by kernel_rfl⟩,⟨Tryz.func248,by kernel_rfl,by kernel_rfl⟩,⟨Tryz.func265,by kernel_rfl,by kernel_rfl⟩,⟨Tryz.func266,by kernel_rfl,by kernel_rfl⟩,⟨Tryz.func268,by kernel_rfl,by kernel_rfl⟩,⟨Tryz.func269,by kernel_rfl,by kernel_rfl⟩,⟨Tryz.func270,by kernel_rfl,by kernel_rfl⟩,⟨Tryz.func272,by kernel_rfl,by kernel_rfl⟩,⟨Tryz.func273,by kernel_rfl,by kernel_rfl⟩,⟨Tryz.func274,by kernel_rfl,by kernel_rfl⟩,⟨Tryz.func275,by kernel_rfl,by kernel_rfl⟩,⟨Tryz.func276,by kernel_rfl,by kernel_rfl⟩,⟨Tryz.func277,by kernel_rfl,by kernel_rfl⟩,⟨Tryz.func278,by kernel_rfl,by kernel_rfl⟩,⟨Tryz.func279,by kernel_rfl,by kernel_rfl⟩,⟨Tryz.func280,by kernel_rfl,by kernel_rfl⟩,⟨Tryz.func282,by kernel_rfl,by kernel_rfl⟩,⟨Tryz.func283,by kernel_rfl,by kernel_rfl⟩,⟨Tryz.func284,by kernel_rfl,by kernel_rfl⟩,⟨Tryz.func285,by kernel_rfl,by kernel_rfl⟩,⟨Tryz.func286,by kernel_rfl,by kernel_rfl⟩,⟨Tryz.func287,by kernel_rfl,by kernel_rfl⟩,⟨Tryz.func288,by kernel_rfl,by kernel_rfl⟩,⟨Tryz.func289,by kernel_rfl,by kernel_rfl⟩,⟨Tryz.func290,by kernel_rfl,by kernel_rfl⟩,⟨Tryz.func291,by kernel_rfl,by kernel_rfl⟩,⟨Tryz.func292,by kernel_rfl,by kernel_rfl⟩,⟨Tryz.func293,by kernel_rfl,by kernel_rfl⟩,⟨Tryz.func294,by kernel_rfl,by kernel_rfl⟩,⟨Tryz.func295,by kernel_rfl,by kernel_rfl⟩,⟨Tryz.func297,by kernel_rfl,by kernel_rfl⟩,⟨Tryz.func298,by kernel_rfl,by kernel_rfl⟩,⟨Tryz.func299,by kernel_rfl,by kernel_rfl⟩,⟨Tryz.func300,by kernel_rfl,by kernel_rfl⟩,⟨Tryz.func301,by kernel_rfl,by kernel_rfl⟩,⟨Tryz.func302,by kernel_rfl,by kernel_rfl⟩,⟨Tryz.func303,by kernel_rfl,by kernel_rfl⟩,⟨Tryz.func304,by kernel_rfl,by kernel_rfl⟩,⟨Tryz.func305,by kernel_rfl,by kernel_rfl⟩,⟨Tryz.func307,by kernel_rfl,by kernel_rfl⟩,⟨Tryz.func308,by kernel_rfl,by kernel_rfl⟩,⟨Tryz.func309,by kernel_rfl,by kernel_rfl⟩,⟨Tryz.func310,by kernel_rfl,by kernel_rfl⟩,⟨Tryz.func311,by kernel_rfl,by kernel_rfl⟩,⟨Tryz.func312,by kernel_rfl,by kernel_rfl⟩,⟨Tryz.func313,by kernel_rfl,by kernel_rfl⟩,⟨Tryz.func314,by kernel_rfl,by kernel_rfl⟩,trivial⟩
noncomputable def cx (l:List (Nat × List AV × AV)):Ctx:=⟨T,MT,luF (entL ftab),luM l⟩
theorem cg (l:List (Nat × List AV × AV)) (hl:tB Tryz.prog l) {n:Nat} {f:FuncId} {vs:List AV} {fz:List Nat} {q:AV} (h:xtop (cx l) n f vs fz q = true):CallSpec Tryz.prog f vs [] q [] :=
 mw (C:=cx l) xO aF mOk (vj fChk) (my hl) h
end Go.Nc
