import Derived.Test.YtflaceijiphfdaaGreatP2
import Derived.Test.YtflaceijiphfdaaGreatProg
set_option linter.unusedSimpArgs false
set_option linter.unusedVariables false
set_option maxHeartbeats 0
set_option maxRecDepth 100000
namespace Go.Proofs.YtflaceijiphfdaaGreat
open Go
def ty2:Ty:=⟨1,8,[.int .i64 0],.int .i64⟩
abbrev ty3:Ty:=ty2
def ty4:Ty:=⟨1,1,[.bool false],.bool⟩
def ty5:Ty:=⟨1,1,[.int .u8 0],.int .u8⟩
abbrev ty6:Ty:=ty5
def ty7:Ty:=⟨4,24,[.int .i64 0,.int .i64 0,.bool false,.int .u8 0],.struct [(0,2),(1,3),(2,4),(3,6)]⟩
abbrev ty8:Ty:=ty7
def ty9:Ty:=⟨1,16,[.str { data:= #[] }],.str⟩
abbrev QIl:Ty:=ty9
abbrev QIm:Ty:=ty9
def ty12:Ty:=⟨1,8,[.int .u64 0],.int .u64⟩
def ty13:Ty:=⟨2,24,[.str { data:= #[] },.int .u64 0],.struct [(0,9),(1,12)]⟩
abbrev QIn:Ty:=ty13
def ty15:Ty:=⟨1,8,[.nil],.ptr 312⟩
def ty16:Ty:=⟨1,8,[.nil],.ptr 315⟩
def ty17:Ty:=⟨1,8,[.nil],.ptr 322⟩
def ty18:Ty:=⟨1,8,[.nil],.struct [(0,17)]⟩
abbrev QIo:Ty:=ty18
def ty21:Ty:=⟨1,4,[.int .i32 0],.int .i32⟩
abbrev QIp:Ty:=ty12
def ty23:Ty:=⟨1,4,[.int .u32 0],.int .u32⟩
def ty26:Ty:=⟨5,40,[.int .i64 0,.int .i64 0,.int .i64 0,.int .i64 0,.int .i32 0],.struct [(0,3),(1,3),(2,3),(3,3),(4,21)]⟩
abbrev QIq:Ty:=ty26
def ty32:Ty:=⟨1,24,[.nilsl],.slice 23⟩
abbrev QIr:Ty:=ty2
def ty34:Ty:=⟨2,16,[.int .i64 0,.int .i64 0],.struct [(0,33),(1,3)]⟩
abbrev QIs:Ty:=ty34
def ty38:Ty:=⟨16,64,[.int .u32 0,.int .u32 0,.int .u32 0,.int .u32 0,.int .u32 0,.int .u32 0,.int .u32 0,.int .u32 0,.int .u32 0,.int .u32 0,.int .u32 0,.int .u32 0,.int .u32 0,.int .u32 0,.int .u32 0,.int .u32 0],.array 16 23⟩
def ty39:Ty:=⟨8,32,[.int .u32 0,.int .u32 0,.int .u32 0,.int .u32 0,.int .u32 0,.int .u32 0,.int .u32 0,.int .u32 0],.array 8 23⟩
def ty40:Ty:=⟨25,100,[.int .u32 0,.int .u32 0,.int .u32 0,.int .u32 0,.int .u32 0,.int .u32 0,.int .u32 0,.int .u32 0,.int .u32 0,.int .u32 0,.int .u32 0,.int .u32 0,.int .u32 0,.int .u32 0,.int .u32 0,.int .u32 0,.int .u32 0,.int .u32 0,.int .u32 0,.int .u32 0,.int .u32 0,.int .u32 0,.int .u32 0,.int .u32 0,.int .u32 0],.struct [(0,38),(16,23),(17,39)]⟩
abbrev QIt:Ty:=ty40
def ty42:Ty:=⟨1,16,[.str { data:= #[] }],.struct [(0,9)]⟩
abbrev QIu:Ty:=ty42
def ty44:Ty:=⟨3,12,[.bool false,.int .u32 0,.bool false],.struct [(0,4),(1,23),(2,4)]⟩
abbrev QIv:Ty:=ty44
def ty46:Ty:=⟨8,56,[.int .u32 0,.int .u32 0,.int .u32 0,.int .i64 0,.int .i64 0,.int .u32 0,.int .u32 0,.str { data:= #[] }],.struct [(0,23),(1,23),(2,23),(3,3),(4,3),(5,23),(6,23),(7,9)]⟩
abbrev QIw:Ty:=ty46
def ty48:Ty:=⟨6,24,[.int .u32 0,.int .u32 0,.bool false,.int .u32 0,.bool false,.int .u32 0],.struct [(0,23),(1,23),(2,4),(3,23),(4,4),(5,23)]⟩
abbrev QIx:Ty:=ty48
def ty50:Ty:=⟨2,8,[.int .u32 0,.int .u32 0],.struct [(0,23),(1,23)]⟩
abbrev QIy:Ty:=ty50
def ty52:Ty:=⟨49,264,[.int .u32 0,.int .u32 0,.int .u32 0,.int .u32 0,.int .u32 0,.int .u32 0,.int .u32 0,.int .u32 0,.int .u32 0,.int .u32 0,.int .u32 0,.int .u32 0,.int .u32 0,.int .u32 0,.int .u32 0,.int .u32 0,.int .u32 0,.int .u32 0,.int .u32 0,.int .u32 0,.int .u32 0,.int .u32 0,.int .u32 0,.int .u32 0,.int .u32 0,.nilsl,.str { data:= #[] },.bool false,.int .u32 0,.bool false,.int .u32 0,.int .u32 0,.int .u32 0,.int .i64 0,.int .i64 0,.int .u32 0,.int .u32 0,.str { data:= #[] },.int .u32 0,.int .u32 0,.bool false,.int .u32 0,.bool false,.int .u32 0,.int .u32 0,.int .u32 0,.int .u64 0,.bool false,.bool false],.struct [(0,41),(25,32),(26,43),(27,45),(30,47),(38,49),(44,51),(46,22),(47,4),(48,4)]⟩
abbrev QIz:Ty:=ty52
def ty56:Ty:=⟨1,24,[.nilsl],.slice 119⟩
def ty57:Ty:=⟨1,24,[.nilsl],.slice 123⟩
def ty58:Ty:=⟨51,312,[.int .u32 0,.int .u32 0,.int .u32 0,.int .u32 0,.int .u32 0,.int .u32 0,.int .u32 0,.int .u32 0,.int .u32 0,.int .u32 0,.int .u32 0,.int .u32 0,.int .u32 0,.int .u32 0,.int .u32 0,.int .u32 0,.int .u32 0,.int .u32 0,.int .u32 0,.int .u32 0,.int .u32 0,.int .u32 0,.int .u32 0,.int .u32 0,.int .u32 0,.nilsl,.str { data:= #[] },.bool false,.int .u32 0,.bool false,.int .u32 0,.int .u32 0,.int .u32 0,.int .i64 0,.int .i64 0,.int .u32 0,.int .u32 0,.str { data:= #[] },.int .u32 0,.int .u32 0,.bool false,.int .u32 0,.bool false,.int .u32 0,.int .u32 0,.int .u32 0,.int .u64 0,.bool false,.bool false,.nilsl,.nilsl],.struct [(0,53),(49,56),(50,57)]⟩
abbrev QIA:Ty:=ty58
def ty60:Ty:=⟨1,24,[.nilsl],.slice 101⟩
abbrev QIB:Ty:=ty12
def ty73:Ty:=⟨1,24,[.nilsl],.slice 3⟩
def ty76:Ty:=⟨1,24,[.nilsl],.slice 5⟩
def ty77:Ty:=⟨1,24,[.nilsl],.slice 115⟩
def ty78:Ty:=⟨1,24,[.nilsl],.slice 83⟩
def ty81:Ty:=⟨1,24,[.nilsl],.slice 85⟩
def ty82:Ty:=⟨6,72,[.str { data:= #[] },.int .i64 0,.nilsl,.int .i64 0,.int .i64 0,.int .i64 0],.struct [(0,9),(1,3),(2,81),(3,3),(4,3),(5,3)]⟩
abbrev QIC:Ty:=ty82
def ty84:Ty:=⟨3,32,[.int .i64 0,.int .i64 0,.str { data:= #[] }],.struct [(0,3),(1,2),(2,9)]⟩
abbrev QID:Ty:=ty84
def ty91:Ty:=⟨1,8,[.nil],.ptr 93⟩
def ty92:Ty:=⟨54,352,[.int .u32 0,.int .u32 0,.int .u32 0,.int .u32 0,.int .u32 0,.int .u32 0,.int .u32 0,.int .u32 0,.int .u32 0,.int .u32 0,.int .u32 0,.int .u32 0,.int .u32 0,.int .u32 0,.int .u32 0,.int .u32 0,.int .u32 0,.int .u32 0,.int .u32 0,.int .u32 0,.int .u32 0,.int .u32 0,.int .u32 0,.int .u32 0,.int .u32 0,.nilsl,.str { data:= #[] },.bool false,.int .u32 0,.bool false,.int .u32 0,.int .u32 0,.int .u32 0,.int .i64 0,.int .i64 0,.int .u32 0,.int .u32 0,.str { data:= #[] },.int .u32 0,.int .u32 0,.bool false,.int .u32 0,.bool false,.int .u32 0,.int .u32 0,.int .u32 0,.int .u64 0,.bool false,.bool false,.nilsl,.nilsl,.nilsl,.int .i64 0,.bool false],.struct [(0,59),(51,60),(52,3),(53,4)]⟩
abbrev QIE:Ty:=ty92
def ty98:Ty:=⟨1,8,[.nil],.ptr 53⟩
def ty100:Ty:=⟨4,40,[.int .i64 0,.int .u64 0,.int .u32 0,.str { data:= #[] }],.struct [(0,3),(1,22),(2,23),(3,9)]⟩
abbrev ty101:Ty:=ty100
def ty110:Ty:=⟨1,24,[.nilsl],.slice 9⟩
def ty114:Ty:=⟨2,24,[.str { data:= #[] },.int .u32 0],.struct [(0,9),(1,23)]⟩
abbrev QGc:Ty:=ty114
def ty118:Ty:=⟨4,12,[.int .u32 0,.int .u32 0,.bool false,.bool false],.struct [(0,23),(1,23),(2,4),(3,4)]⟩
abbrev ty119:Ty:=ty118
def ty121:Ty:=⟨1,24,[.nilsl],.slice 126⟩
def ty122:Ty:=⟨3,40,[.int .u32 0,.int .i64 0,.nilsl],.struct [(0,23),(1,3),(2,121)]⟩
abbrev ty123:Ty:=ty122
def ty125:Ty:=⟨6,48,[.int .i64 0,.int .i64 0,.int .i64 0,.int .i64 0,.int .u32 0,.int .i64 0],.struct [(0,3),(1,3),(2,3),(3,3),(4,23),(5,3)]⟩
abbrev ty126:Ty:=ty125
def ty129:Ty:=⟨4,32,[.int .i64 0,.int .i64 0,.int .i64 0,.int .u32 0],.struct [(0,3),(1,3),(2,3),(3,23)]⟩
abbrev QGd:Ty:=ty129
def ty136:Ty:=⟨1,8,[.nil],.ptr 39⟩
def ty143:Ty:=⟨1,24,[.nilsl],.slice 147⟩
def ty146:Ty:=⟨3,32,[.int .i64 0,.str { data:= #[] },.bool false],.struct [(0,3),(1,9),(2,4)]⟩
abbrev QGe:Ty:=ty146
def ty188:Ty:=⟨16,16,[.bool false,.bool false,.bool false,.bool false,.bool false,.bool false,.bool false,.bool false,.bool false,.bool false,.bool false,.bool false,.bool false,.bool false,.bool false,.bool false],.array 16 4⟩
def ty189:Ty:=⟨32,80,[.bool false,.bool false,.bool false,.bool false,.bool false,.bool false,.bool false,.bool false,.bool false,.bool false,.bool false,.bool false,.bool false,.bool false,.bool false,.bool false,.int .u32 0,.int .u32 0,.int .u32 0,.int .u32 0,.int .u32 0,.int .u32 0,.int .u32 0,.int .u32 0,.int .u32 0,.int .u32 0,.int .u32 0,.int .u32 0,.int .u32 0,.int .u32 0,.int .u32 0,.int .u32 0],.struct [(0,188),(16,38)]⟩
abbrev QGf:Ty:=ty189
def ty208:Ty:=⟨5,5,[.bool false,.bool false,.bool false,.bool false,.bool false],.array 5 4⟩
def ty211:Ty:=⟨3,16,[.int .u32 0,.int .u32 0,.int .i64 0],.struct [(0,23),(1,23),(2,3)]⟩
abbrev QGg:Ty:=ty211
def ty221:Ty:=⟨1,8,[.nil],.ptr 41⟩
def ty228:Ty:=⟨1,2,[.int .i16 0],.int .i16⟩
def ty245:Ty:=⟨5,12,[.bool false,.bool false,.bool false,.int .i32 0,.int .i32 0],.struct [(0,4),(1,4),(2,4),(3,21),(4,21)]⟩
abbrev QGh:Ty:=ty245
def ty260:Ty:=⟨2,48,[.nilsl,.nilsl],.struct [(0,32),(1,57)]⟩
abbrev QGi:Ty:=ty260
def ty266:Ty:=⟨1,1,[.int .i8 0],.int .i8⟩
def ty267:Ty:=⟨1,8,[.nil],.ptr 23⟩
def ty280:Ty:=⟨2,48,[.nilsl,.nilsl],.struct [(0,73),(1,57)]⟩
abbrev QGj:Ty:=ty280
def ty285:Ty:=⟨1,8,[.nil],.ptr 261⟩
def ty291:Ty:=⟨1,8,[.nil],.ptr 281⟩
def ty296:Ty:=⟨1,8,[.nil],.ptr 298⟩
def ty297:Ty:=⟨2,32,[.nil,.nilsl],.struct [(0,296),(1,76)]⟩
abbrev QGk:Ty:=ty297
def ty307:Ty:=⟨1,8,[.nil],.ptr 5⟩
def ty311:Ty:=⟨4,40,[.nil,.nil,.nil,.str { data:= #[] }],.struct [(0,17),(1,17),(2,17),(3,9)]⟩
abbrev QGl:Ty:=ty311
def ty313:Ty:=⟨0,0,[],.array 0 16⟩
def ty314:Ty:=⟨0,0,[],.struct [(0,313)]⟩
abbrev QGm:Ty:=ty314
abbrev QGn:Ty:=ty5
abbrev QGo:Ty:=ty5
abbrev QGp:Ty:=ty21
abbrev QGq:Ty:=ty21
theorem zty {t:TypeId} {d:TypeDesc} (i:TypeInfo) {y:Ty} {z:Value} (h1:Tryz.prog.underlying t=some d) (h2:Tryz.prog.info? t=some i:=by kernel_rfl) (h3:i.size=y.size:=by exact rfl) (h4:i.bytes=y.bytes:=by exact rfl) (h5:Qel d y.kind:=by first|exact rfl|exact trivial|exact ⟨rfl,rfl⟩) (h6:i.zero=some z:=by exact rfl) (h7:z.cells.toList.map Qlx=y.zero:=by exact rfl) (h8:y.zero.length=y.size:=by exact rfl):TyOk Tryz.prog t y:=⟨d,i,z,h1,h2,h3,h4,h5,h6,h7,h8⟩
inductive Tr
 | l
 | n (k:Nat) (y:Ty) (a b:Tr)
noncomputable def Tr.get (t:Tr) (k:Nat):Option Ty:=Tr.rec none (fun i y _ _ p q=>match Nat.beq k i with|true=>some y|false=>match Nat.blt k i with|true=>p|false=>q) t
def Tr.ok:Tr->Prop
 | .l=>True
 | .n k y a b=>TyOk Tryz.prog k y/\a.ok/\b.ok
theorem QrT:∀ {t:Tr} {k:Nat} {y:Ty},t.ok->t.get k=some y->TyOk Tryz.prog k y
 | .l,_,_,_,h=>by cases h
 | .n i z a b,k,y,⟨h1,h2,h3⟩,h=>by
  change (match Nat.beq k i with|true=>some z|false=>match Nat.blt k i with|true=>a.get k|false=>b.get k)=some y at h;split at h
  .rename_i e
   injection h with h
   subst h;rw [Nat.eq_of_beq_eq_true e];exact h1
  split at h
  .exact QrT h2 h
  .exact QrT h3 h
def tr:Tr:= .n 83 QIC (.n 38 ty38 (.n 15 ty15 (.n 8 ty8 (.n 5 ty5 (.n 3 ty3 (.n 2 ty2 .l .l) (.n 4 ty4 .l .l)) (.n 7 ty7 (.n 6 ty6 .l .l) .l)) (.n 12 ty12 (.n 10 QIl (.n 9 ty9 .l .l) (.n 11 QIm .l .l)) (.n 14 QIn (.n 13 ty13 .l .l) .l))) (.n 23 ty23 (.n 19 QIo (.n 17 ty17 (.n 16 ty16 .l .l) (.n 18 ty18 .l .l)) (.n 22 QIp (.n 21 ty21 .l .l) .l)) (.n 33 QIr (.n 27 QIq (.n 26 ty26 .l .l) (.n 32 ty32 .l .l)) (.n 35 QIs (.n 34 ty34 .l .l) .l)))) (.n 52 ty52 (.n 45 QIv (.n 42 ty42 (.n 40 ty40 (.n 39 ty39 .l .l) (.n 41 QIt .l .l)) (.n 44 ty44 (.n 43 QIu .l .l) .l)) (.n 49 QIx (.n 47 QIw (.n 46 ty46 .l .l) (.n 48 ty48 .l .l)) (.n 51 QIy (.n 50 ty50 .l .l) .l))) (.n 72 QIB (.n 58 ty58 (.n 56 ty56 (.n 53 QIz .l .l) (.n 57 ty57 .l .l)) (.n 60 ty60 (.n 59 QIA .l .l) .l)) (.n 78 ty78 (.n 76 ty76 (.n 73 ty73 .l .l) (.n 77 ty77 .l .l)) (.n 82 ty82 (.n 81 ty81 .l .l) .l))))) (.n 208 ty208 (.n 121 ty121 (.n 100 ty100 (.n 92 ty92 (.n 85 QID (.n 84 ty84 .l .l) (.n 91 ty91 .l .l)) (.n 98 ty98 (.n 93 QIE .l .l) .l)) (.n 115 QGc (.n 110 ty110 (.n 101 ty101 .l .l) (.n 114 ty114 .l .l)) (.n 119 ty119 (.n 118 ty118 .l .l) .l))) (.n 136 ty136 (.n 126 ty126 (.n 123 ty123 (.n 122 ty122 .l .l) (.n 125 ty125 .l .l)) (.n 130 QGd (.n 129 ty129 .l .l) .l)) (.n 188 ty188 (.n 146 ty146 (.n 143 ty143 .l .l) (.n 147 QGe .l .l)) (.n 190 QGf (.n 189 ty189 .l .l) .l)))) (.n 291 ty291 (.n 260 ty260 (.n 228 ty228 (.n 212 QGg (.n 211 ty211 .l .l) (.n 221 ty221 .l .l)) (.n 246 QGh (.n 245 ty245 .l .l) .l)) (.n 280 ty280 (.n 266 ty266 (.n 261 QGi .l .l) (.n 267 ty267 .l .l)) (.n 285 ty285 (.n 281 QGj .l .l) .l))) (.n 313 ty313 (.n 307 ty307 (.n 297 ty297 (.n 296 ty296 .l .l) (.n 298 QGk .l .l)) (.n 312 QGl (.n 311 ty311 .l .l) .l)) (.n 317 QGo (.n 315 QGm (.n 314 ty314 .l .l) (.n 316 QGn .l .l)) (.n 320 QGq (.n 319 QGp .l .l) .l)))))
theorem QGb:tr.ok:=⟨zty Tryz.t83 Tryz.underlying83,⟨zty Tryz.t38 Tryz.underlying38,⟨zty Tryz.t15 Tryz.underlying15,⟨zty Tryz.t8 Tryz.underlying8,⟨zty Tryz.t5 Tryz.underlying5,⟨zty Tryz.t3 Tryz.underlying3,⟨zty Tryz.t2 Tryz.underlying2,trivial,trivial⟩,⟨zty Tryz.t4 Tryz.underlying4,trivial,trivial⟩⟩,⟨zty Tryz.t7 Tryz.underlying7,⟨zty Tryz.t6 Tryz.underlying6,trivial,trivial⟩,trivial⟩⟩,⟨zty Tryz.t12 Tryz.underlying12,⟨zty Tryz.t10 Tryz.underlying10,⟨zty Tryz.t9 Tryz.underlying9,trivial,trivial⟩,⟨zty Tryz.t11 Tryz.underlying11,trivial,trivial⟩⟩,⟨zty Tryz.t14 Tryz.underlying14,⟨zty Tryz.t13 Tryz.underlying13,trivial,trivial⟩,trivial⟩⟩⟩,⟨zty Tryz.t23 Tryz.underlying23,⟨zty Tryz.t19 Tryz.underlying19,⟨zty Tryz.t17 Tryz.underlying17,⟨zty Tryz.t16 Tryz.underlying16,trivial,trivial⟩,⟨zty Tryz.t18 Tryz.underlying18,trivial,trivial⟩⟩,⟨zty Tryz.t22 Tryz.underlying22,⟨zty Tryz.t21 Tryz.underlying21,trivial,trivial⟩,trivial⟩⟩,⟨zty Tryz.t33 Tryz.underlying33,⟨zty Tryz.t27 Tryz.underlying27,⟨zty Tryz.t26 Tryz.underlying26,trivial,trivial⟩,⟨zty Tryz.t32 Tryz.underlying32,trivial,trivial⟩⟩,⟨zty Tryz.t35 Tryz.underlying35,⟨zty Tryz.t34 Tryz.underlying34,trivial,trivial⟩,trivial⟩⟩⟩⟩,⟨zty Tryz.t52 Tryz.underlying52,⟨zty Tryz.t45 Tryz.underlying45,⟨zty Tryz.t42 Tryz.underlying42,⟨zty Tryz.t40 Tryz.underlying40,⟨zty Tryz.t39 Tryz.underlying39,trivial,trivial⟩,⟨zty Tryz.t41 Tryz.underlying41,trivial,trivial⟩⟩,⟨zty Tryz.t44 Tryz.underlying44,⟨zty Tryz.t43 Tryz.underlying43,trivial,trivial⟩,trivial⟩⟩,⟨zty Tryz.t49 Tryz.underlying49,⟨zty Tryz.t47 Tryz.underlying47,⟨zty Tryz.t46 Tryz.underlying46,trivial,trivial⟩,⟨zty Tryz.t48 Tryz.underlying48,trivial,trivial⟩⟩,⟨zty Tryz.t51 Tryz.underlying51,⟨zty Tryz.t50 Tryz.underlying50,trivial,trivial⟩,trivial⟩⟩⟩,⟨zty Tryz.t72 Tryz.underlying72,⟨zty Tryz.t58 Tryz.underlying58,⟨zty Tryz.t56 Tryz.underlying56,⟨zty Tryz.t53 Tryz.underlying53,trivial,trivial⟩,⟨zty Tryz.t57 Tryz.underlying57,trivial,trivial⟩⟩,⟨zty Tryz.t60 Tryz.underlying60,⟨zty Tryz.t59 Tryz.underlying59,trivial,trivial⟩,trivial⟩⟩,⟨zty Tryz.t78 Tryz.underlying78,⟨zty Tryz.t76 Tryz.underlying76,⟨zty Tryz.t73 Tryz.underlying73,trivial,trivial⟩,⟨zty Tryz.t77 Tryz.underlying77,trivial,trivial⟩⟩,⟨zty Tryz.t82 Tryz.underlying82,⟨zty Tryz.t81 Tryz.underlying81,trivial,trivial⟩,trivial⟩⟩⟩⟩⟩,⟨zty Tryz.t208 Tryz.underlying208,⟨zty Tryz.t121 Tryz.underlying121,⟨zty Tryz.t100 Tryz.underlying100,⟨zty Tryz.t92 Tryz.underlying92,⟨zty Tryz.t85 Tryz.underlying85,⟨zty Tryz.t84 Tryz.underlying84,trivial,trivial⟩,⟨zty Tryz.t91 Tryz.underlying91,trivial,trivial⟩⟩,⟨zty Tryz.t98 Tryz.underlying98,⟨zty Tryz.t93 Tryz.underlying93,trivial,trivial⟩,trivial⟩⟩,⟨zty Tryz.t115 Tryz.underlying115,⟨zty Tryz.t110 Tryz.underlying110,⟨zty Tryz.t101 Tryz.underlying101,trivial,trivial⟩,⟨zty Tryz.t114 Tryz.underlying114,trivial,trivial⟩⟩,⟨zty Tryz.t119 Tryz.underlying119,⟨zty Tryz.t118 Tryz.underlying118,trivial,trivial⟩,trivial⟩⟩⟩,⟨zty Tryz.t136 Tryz.underlying136,⟨zty Tryz.t126 Tryz.underlying126,⟨zty Tryz.t123 Tryz.underlying123,⟨zty Tryz.t122 Tryz.underlying122,trivial,trivial⟩,⟨zty Tryz.t125 Tryz.underlying125,trivial,trivial⟩⟩,⟨zty Tryz.t130 Tryz.underlying130,⟨zty Tryz.t129 Tryz.underlying129,trivial,trivial⟩,trivial⟩⟩,⟨zty Tryz.t188 Tryz.underlying188,⟨zty Tryz.t146 Tryz.underlying146,⟨zty Tryz.t143 Tryz.underlying143,trivial,trivial⟩,⟨zty Tryz.t147 Tryz.underlying147,trivial,trivial⟩⟩,⟨zty Tryz.t190 Tryz.underlying190,⟨zty Tryz.t189 Tryz.underlying189,trivial,trivial⟩,trivial⟩⟩⟩⟩,⟨zty Tryz.t291 Tryz.underlying291,⟨zty Tryz.t260 Tryz.underlying260,⟨zty Tryz.t228 Tryz.underlying228,⟨zty Tryz.t212 Tryz.underlying212,⟨zty Tryz.t211 Tryz.underlying211,trivial,trivial⟩,⟨zty Tryz.t221 Tryz.underlying221,trivial,trivial⟩⟩,⟨zty Tryz.t246 Tryz.underlying246,⟨zty Tryz.t245 Tryz.underlying245,trivial,trivial⟩,trivial⟩⟩,⟨zty Tryz.t280 Tryz.underlying280,⟨zty Tryz.t266 Tryz.underlying266,⟨zty Tryz.t261 Tryz.underlying261,trivial,trivial⟩,⟨zty Tryz.t267 Tryz.underlying267,trivial,trivial⟩⟩,⟨zty Tryz.t285 Tryz.underlying285,⟨zty Tryz.t281 Tryz.underlying281,trivial,trivial⟩,trivial⟩⟩⟩,⟨zty Tryz.t313 Tryz.underlying313,⟨zty Tryz.t307 Tryz.underlying307,⟨zty Tryz.t297 Tryz.underlying297,⟨zty Tryz.t296 Tryz.underlying296,trivial,trivial⟩,⟨zty Tryz.t298 Tryz.underlying298,trivial,trivial⟩⟩,⟨zty Tryz.t312 Tryz.underlying312,⟨zty Tryz.t311 Tryz.underlying311,trivial,trivial⟩,trivial⟩⟩,⟨zty Tryz.t317 Tryz.underlying317,⟨zty Tryz.t315 Tryz.underlying315,⟨zty Tryz.t314 Tryz.underlying314,trivial,trivial⟩,⟨zty Tryz.t316 Tryz.underlying316,trivial,trivial⟩⟩,⟨zty Tryz.t320 Tryz.underlying320,⟨zty Tryz.t319 Tryz.underlying319,trivial,trivial⟩,trivial⟩⟩⟩⟩⟩⟩
noncomputable def tys:Tys:=tr.get
theorem Qmy:QaU Tryz.prog tys:=fun _ _ h=>QrT QGb h
theorem QHa:ty2.bytes=8/\ty4.bytes=1/\ty5.bytes=1/\ty7.bytes=24/\ty9.bytes=16/\ty12.bytes=8/\ty13.bytes=24/\ty15.bytes=8/\ty16.bytes=8/\ty17.bytes=8/\ty18.bytes=8/\ty21.bytes=4/\ty23.bytes=4/\ty26.bytes=40/\ty32.bytes=24/\ty34.bytes=16/\ty38.bytes=64/\ty39.bytes=32/\ty40.bytes=100/\ty42.bytes=16/\ty44.bytes=12/\ty46.bytes=56/\ty48.bytes=24/\ty50.bytes=8/\ty52.bytes=264/\ty56.bytes=24/\ty57.bytes=24/\ty58.bytes=312/\ty60.bytes=24/\ty73.bytes=24/\ty76.bytes=24/\ty77.bytes=24/\ty78.bytes=24/\ty81.bytes=24/\ty82.bytes=72/\ty84.bytes=32/\ty91.bytes=8/\ty92.bytes=352/\ty98.bytes=8/\ty100.bytes=40/\ty110.bytes=24/\ty114.bytes=24/\ty118.bytes=12/\ty121.bytes=24/\ty122.bytes=40/\ty125.bytes=48/\ty129.bytes=32/\ty136.bytes=8/\ty143.bytes=24/\ty146.bytes=32/\ty188.bytes=16/\ty189.bytes=80/\ty208.bytes=5/\ty211.bytes=16/\ty221.bytes=8/\ty228.bytes=2/\ty245.bytes=12/\ty260.bytes=48/\ty266.bytes=1/\ty267.bytes=8/\ty280.bytes=48/\ty285.bytes=8/\ty291.bytes=8/\ty296.bytes=8/\ty297.bytes=32/\ty307.bytes=8/\ty311.bytes=40/\ty313.bytes=0/\ty314.bytes=0:=⟨rfl,rfl,rfl,rfl,rfl,rfl,rfl,rfl,rfl,rfl,rfl,rfl,rfl,rfl,rfl,rfl,rfl,rfl,rfl,rfl,rfl,rfl,rfl,rfl,rfl,rfl,rfl,rfl,rfl,rfl,rfl,rfl,rfl,rfl,rfl,rfl,rfl,rfl,rfl,rfl,rfl,rfl,rfl,rfl,rfl,rfl,rfl,rfl,rfl,rfl,rfl,rfl,rfl,rfl,rfl,rfl,rfl,rfl,rfl,rfl,rfl,rfl,rfl,rfl,rfl,rfl,rfl,rfl,rfl⟩
theorem QHb:ty2.size=1/\ty4.size=1/\ty5.size=1/\ty7.size=4/\ty9.size=1/\ty12.size=1/\ty13.size=2/\ty15.size=1/\ty16.size=1/\ty17.size=1/\ty18.size=1/\ty21.size=1/\ty23.size=1/\ty26.size=5/\ty32.size=1/\ty34.size=2/\ty38.size=16/\ty39.size=8/\ty40.size=25/\ty42.size=1/\ty44.size=3/\ty46.size=8/\ty48.size=6/\ty50.size=2/\ty52.size=49/\ty56.size=1/\ty57.size=1/\ty58.size=51/\ty60.size=1/\ty73.size=1/\ty76.size=1/\ty77.size=1/\ty78.size=1/\ty81.size=1/\ty82.size=6/\ty84.size=3/\ty91.size=1/\ty92.size=54/\ty98.size=1/\ty100.size=4/\ty110.size=1/\ty114.size=2/\ty118.size=4/\ty121.size=1/\ty122.size=3/\ty125.size=6/\ty129.size=4/\ty136.size=1/\ty143.size=1/\ty146.size=3/\ty188.size=16/\ty189.size=32/\ty208.size=5/\ty211.size=3/\ty221.size=1/\ty228.size=1/\ty245.size=5/\ty260.size=2/\ty266.size=1/\ty267.size=1/\ty280.size=2/\ty285.size=1/\ty291.size=1/\ty296.size=1/\ty297.size=2/\ty307.size=1/\ty311.size=4/\ty313.size=0/\ty314.size=0:=⟨rfl,rfl,rfl,rfl,rfl,rfl,rfl,rfl,rfl,rfl,rfl,rfl,rfl,rfl,rfl,rfl,rfl,rfl,rfl,rfl,rfl,rfl,rfl,rfl,rfl,rfl,rfl,rfl,rfl,rfl,rfl,rfl,rfl,rfl,rfl,rfl,rfl,rfl,rfl,rfl,rfl,rfl,rfl,rfl,rfl,rfl,rfl,rfl,rfl,rfl,rfl,rfl,rfl,rfl,rfl,rfl,rfl,rfl,rfl,rfl,rfl,rfl,rfl,rfl,rfl,rfl,rfl,rfl,rfl⟩
end Go.Proofs.YtflaceijiphfdaaGreat
namespace Go.Proofs.YtflaceijiphfdaaGreat
open Go Go.RowKit
noncomputable def fNb (n:Nat) (K:Nat->Bool):Bool:=Nat.rec (K 0) (fun m _=>K (Nat.succ m)) n
theorem QpJ (n:Nat) (K:Nat->Bool):fNb n K=K n:=by cases n<;>rfl
noncomputable def fLb (l:List Nat):(List Nat->Bool)->Bool:=List.rec (fun K=>K []) (fun a _ ih K=>fNb a fun a=>ih fun l=>K (a::l)) l
theorem Qvd:∀ (l:List Nat) (K:List Nat->Bool),fLb l K=K l
 | [],K=>rfl
 | a::l,K=>by
  show fNb a (fun a=>fLb l fun l=>K (a::l))=_;rw [QpJ,Qvd l]
structure Inf where
 (dst:Option Nat) (lk rd wr:List Nat)
noncomputable def fPb (l:List Inf):(List Inf->Bool)->Bool:=List.rec (fun K=>K []) (fun a _ ih K=>ih fun l=>K (a::l)) l
theorem Qve:∀ (l:List Inf) (K:List Inf->Bool),fPb l K=K l
 | [],K=>rfl
 | a::l,K=>by
  show fPb l (fun l=>K (a::l))=_;rw [Qve l]
noncomputable def QEl (l m:List Nat):Bool:=List.rec true (fun x _ ih=>match QcW x m with
 | true=>false
 | false=>ih) l
theorem QkA:∀ {l m:List Nat},QEl l m=true->QnY l m=true
 | [],m,h=>rfl
 | x::l,m,h=>by
  change (match QcW x m with|true=>false|false=>QEl l m)=true at h;split at h
  .cases h
  .rename_i hb
   unfold QnY;rw [List.all_cons,Bool.and_eq_true];refine ⟨?_,QkA h⟩;rw [List.all_eq_true];intro y hy
   cases hc:Nat.beq x y with
   | true=>have:=Nat.eq_of_beq_eq_true hc;subst this;exact absurd hy (Qgz hb)
   | false=>rfl
def QtH (d:Option Nat) (l:List Nat):Bool:=match d with
 | some d=> !QcW d l
 | none=>true
def neD (d e:Option Nat):Bool:=match d,e with
 | some d,some e=> !Nat.beq d e
 | _,_=>true
noncomputable def apI (x y:Inf):Bool:=QtH x.dst y.lk&&neD x.dst y.dst&&QtH y.dst x.lk&&QEl x.wr y.rd&&QEl y.wr x.rd
def Qm6 (arr:Array Oper) (o:Oper) (d:Did):Inf:=⟨o.dst,o.looksAt arr,d.rd,d.wr⟩
theorem Qfr {d:Nat} {l:List Nat} (h:QcW d l=false):l.contains d=false:=by grind [List.contains_iff_mem,Qgz,QcW]
theorem QAy {arr:Array Oper} {x y:Oper} {d e:Did} (h:apI (Qm6 arr x d) (Qm6 arr y e)=true):(x.apart arr y&&QnY d.wr e.rd&&QnY e.wr d.rd)=true:=by
 unfold apI Qm6 at h;simp only [Bool.and_eq_true] at h;obtain ⟨⟨⟨⟨h1,h2⟩,_⟩,h4⟩,h5⟩:=h;rw [QkA h4,QkA h5,Bool.and_true,Bool.and_true];unfold Oper.apart;rw [Bool.and_eq_true];constructor
 .cases hx:x.dst with
  | none=>rfl
  | some a =>
   rw [hx] at h1 h2;simp only [QtH,Bool.not_eq_true'] at h1;simp only [Bool.and_eq_true];refine ⟨by rw [Qfr h1];rfl,?_⟩
   cases hy:y.dst with
   | none=>rfl
   | some b=>grind [neD,Bool.not_eq_true',Nat.ne_of_beq_eq_false,apI,Qm6,QnY]
 .grind [QtH,Bool.not_eq_true',Qfr,apI,Qm6,QnY]
noncomputable def chk (m:Nat) (cur:Inf) (l:List Inf):Nat->Bool:=List.rec (fun _=>true) (fun p _ ih i=>match m.testBit i with
 | true=>fNb (i+1) ih
 | false=>match apI p cur with
  | true=>fNb (i+1) ih
  | false=>false) l
theorem QuY {m:Nat} {cur:Inf}:∀ {l:List Inf} {s:Nat},chk m cur l s=true->∀ (i:Nat) p,l[i]?=some p->m.testBit (s+i)=true\/apI p cur=true
 | [],s,_,i,p,h=>by simp at h
 | q::l,s,h,i,p,hi=>by
  change (match m.testBit s with|true=>fNb (s+1) (chk m cur l)|false=>match apI q cur with|true=>fNb (s+1) (chk m cur l)|false=>false)=true at h;rw [QpJ] at h
  have next:chk m cur l (s+1)=true:=by
   split at h
   .exact h
   .split at h
    .exact h
    .cases h
  cases i with
  | zero =>
   injection hi with hi;subst hi
   split at h
   .rename_i hb;exact .inl hb
   .split at h
    .rename_i hb;exact .inr hb
    .cases h
  | succ i =>
   rw [show s+(i+1)=s+1+i by omega];exact QuY next i p (by simpa using hi)
noncomputable def QoY (arr:Array Oper) (l:List Oper):List Did->List Nat->List Inf->Bool :=
 List.rec (fun _ _ _=>true) (fun o _ ih ds acc prev=>match ds with
  | []=>false
  | d::ds=>fNb (Qfq o acc) fun m=>fLb (o.looksAt arr) fun lk=>fLb d.rd fun rd=>fLb d.wr fun wr=>match chk m ⟨o.dst,lk,rd,wr⟩ prev 0 with
   | true=>fLb (acc++ [m]) fun acc=>fPb (prev++ [⟨o.dst,lk,rd,wr⟩]) fun prev=>ih ds acc prev
   | false=>false) l
theorem Qjv:∀ (l:List Oper) (acc:List Nat) (k:Nat),k<acc.length->(QbJ l acc).getD k 0=acc.getD k 0
 | [],acc,k,_=>rfl
 | o::l,acc,k,h=>by
  show (QbJ l (acc++ [Qfq o acc])).getD k 0=_;rw [Qjv l _ k (by simp;omega),List.getD_eq_getElem?_getD,List.getElem?_append_left h,<- List.getD_eq_getElem?_getD]
theorem Qi1 {arr:Array Oper} {all:List Oper} {dsA:List Did} (harr:arr=all.toArray):∀ (l:List Oper) (ds:List Did) (acc:List Nat) (prev:List Inf) (pre:List Oper) (dpre:List Did),QoY arr l ds acc prev=true->all=pre++l->dsA=dpre++ds ->
  acc.length=pre.length->dpre.length=pre.length->prev.length=pre.length->QbJ all []=QbJ l acc->(∀ (i:Nat) p,prev[i]?=some p->∃ o d,pre[i]?=some o/\dpre[i]?=some d/\p=Qm6 arr o d) ->
  ∀ j,pre.length<=j->j<all.length->∀ i,i<j->(((QbJ all []).getD j 0).testBit i||Qdb all dsA i j)=true
 | [],ds,acc,prev,pre,dpre,_,h1,_,_,_,_,_,_,j,hj,FQ,i,hi=>by subst h1;simp at FQ;omega
 | o::l,ds,acc,prev,pre,dpre,hq,h1,h2,h3,h4,h5,h6,h7,j,hj,FQ,i,hi=>by
  cases ds with
  | nil=>cases hq
  | cons d ds =>
   change (fNb (Qfq o acc) fun m=>fLb (o.looksAt arr) fun lk=>fLb d.rd fun rd=>fLb d.wr fun wr=>match chk m ⟨o.dst,lk,rd,wr⟩ prev 0 with
    | true=>fLb (acc++ [m]) fun acc=>fPb (prev++ [⟨o.dst,lk,rd,wr⟩]) fun prev=>QoY arr l ds acc prev
    | false=>false)=true at hq
   simp only [QpJ,Qvd,Qve] at hq;split at hq
   .rename_i hc
    by_cases hjp:j=pre.length
    .subst hjp
     have hm:(QbJ all []).getD pre.length 0=Qfq o acc:=by
      rw [h6];show (QbJ l (acc++ [Qfq o acc])).getD pre.length 0=_;rw [Qjv l _ _ (by simp;omega),<- h3];simp [List.getD]
     obtain ⟨p,hp⟩:∃ p,prev[i]?=some p:=⟨_,List.getElem?_eq_getElem (by omega)⟩;obtain ⟨o',d',q1,q2,rfl⟩:=h7 i p hp;rw [hm,Bool.or_eq_true];rcases QuY hc i _ hp with h8|h8
     .rw [Nat.zero_add] at h8;exact .inl h8
     .right
      unfold Qdb;have e1:all[i]?=some o':=by rw [h1,List.getElem?_append_left hi];exact q1
      have e2:all[pre.length]?=some o:=by rw [h1,List.getElem?_append_right (Nat.le_refl _)];simp
      have e3:dsA[i]?=some d':=by rw [h2,List.getElem?_append_left (by omega)];exact q2
      have e4:dsA[pre.length]?=some d:=by rw [h2,<- h4,List.getElem?_append_right (Nat.le_refl _)];simp
      rw [e1,e2,e3,e4];simp only [];rw [<- harr];exact QAy h8
    .refine Qi1 harr l ds _ _ (pre++ [o]) (dpre++ [d]) hq (by simp [h1]) (by simp [h2]) (by simp [h3]) (by simp [h4]) (by simp [h5]) h6 (fun i p hp=>?_) j (by simp;omega) FQ i hi
     by_cases YK:i<prev.length
     .rw [List.getElem?_append_left YK] at hp
      obtain ⟨o',d',q1,q2,q3⟩:=h7 i p hp;exact ⟨o',d',by rw [List.getElem?_append_left (by omega)];exact q1,by rw [List.getElem?_append_left (by omega)];exact q2,q3⟩
     .rw [List.getElem?_append_right (by omega)] at hp
      have:i=prev.length:=by
       have:=(List.getElem?_eq_some_iff.1 hp).1;simp at this;omega
      subst this;simp at hp;exact ⟨o,d,by rw [h5,List.getElem?_append_right (Nat.le_refl _)];simp,by rw [h5,<- h4,List.getElem?_append_right (Nat.le_refl _)];simp,hp.symm⟩
   .cases hq
noncomputable def QoX (all:List Oper) (ds:List Did):Bool:=match Qhj all 0 with
 | true=>QoY all.toArray all ds [] []
 | false=>false
theorem QlM {all:List Oper} {ds:List Did} (h:QoX all ds=true):Qd1 all ds=true:=by
 unfold QoX at h;split at h
 .rename_i he
  unfold Qd1;rw [he,Bool.true_and,List.all_eq_true];intro j hj;rw [List.all_eq_true];intro i hi;exact Qi1 rfl all ds [] [] [] [] h rfl rfl rfl rfl rfl rfl (fun i p hp=>by simp at hp) j (Nat.zero_le _) (by simpa using hj) i (by simpa using hi)
 .cases h
theorem QxD:Tryz.prog.follows .mixedOrders=true:=by kernel_rfl
theorem Qb3 {x:Int} (h1: -9223372036854775808<=x) (h2:x<=9223372036854775807):IntKind.i64.wrap x=x:=by rw [IntKind.wrap_i64];omega
theorem QeO {x:Int} (h1:0<=x) (h2:x<=4294967295):IntKind.u32.wrap x=x:=by
 show x%4294967296=x;omega
theorem Qce (x:Int):IntKind.u32.wrap x=x%4294967296:=rfl
theorem wu8 {x:Int} (h1:0<=x) (h2:x<=255):IntKind.u8.wrap x=x:=by show x%256=x;omega
theorem Qn3 (x:Int):IntKind.u8.wrap x=x%256:=rfl
theorem QCR {x:Int} (h1:0<=x) (h2:x<=18446744073709551615):IntKind.u64.wrap x=x:=by show x%18446744073709551616=x;omega
theorem QnP (x:Int):IntKind.u64.wrap x=x%18446744073709551616:=rfl
theorem Qsq {x:Int} (h1: -2147483648<=x) (h2:x<=2147483647):IntKind.i32.wrap x=x:=by
 have e:IntKind.i32.wrap x=if x%4294967296>=2147483648 then x%4294967296-4294967296 else x%4294967296:=by
  unfold IntKind.wrap;simp [IntKind.signed,IntKind.bits]
 rw [e];split<;>omega
theorem QbQ {c l:List SV} (h:c.length=l.length):QaB c 0 l=l:=by
 apply List.ext_getElem?;intro j;rw [Qbg c 0 l j (by omega)];split
 .rfl
 .grind
theorem QjM {c l:List SV} (h:Nat.beq c.length l.length=true):QaB c 0 l=l:=QbQ (Nat.eq_of_beq_eq_true h)
theorem Qop (op:BinOp) (k:IntKind) (a b:Int):bits op k a b=bits op k a b:=rfl
theorem Qmu {x y:Int} (h1:0<=x):x.tdiv y=x / y:=Int.tdiv_eq_ediv_of_nonneg h1
theorem Qf3 {x y:Int} (h1:0<=x):x.tmod y=x%y:=Int.tmod_eq_emod_of_nonneg h1
theorem QyI {all:List Oper} {ds:List Did} {k:Prop} (h:QoX all ds=true) (hk:k):Sd (Qd1 all ds=true) k:= .mk (QlM h) hk
inductive Fc {α:Type}:α->α->Prop
 | mk {a b:α} (h:a=b):Fc a b
theorem Fc.eq {α:Type} {a b:α} (h:Fc a b):a=b:=by cases h;assumption
theorem QBa {α:Type} {a b:α} (h:Fc a b):a=b:=h.eq
theorem QpL {α:Type} {a b:α} (h:Fc a b):Fc (some a) (some b):=⟨h.eq ▸ rfl⟩
theorem QBd {α:Type}:Fc ([]:List α) []:=⟨rfl⟩
theorem Qw2 {α:Type} {a b:α} {l m:List α} (h1:Fc a b) (h2:Fc l m):Fc (a::l) (b::m):=⟨by rw [h1.eq,h2.eq]⟩
theorem QBb {k:IntKind} {x:Int}:Fc (SV.int k x) (.int k x):=⟨rfl⟩
theorem Qw1 {b:Bool}:Fc (SV.bool b) (.bool b):=⟨rfl⟩
theorem QHU:Fc SV.nil .nil:=⟨rfl⟩
theorem QFo:Fc SV.nilsl .nilsl:=⟨rfl⟩
theorem QBi:Fc SV.unk .unk:=⟨rfl⟩
theorem QBe {i o}:Fc (SV.ptr i o) (.ptr i o):=⟨rfl⟩
theorem QFp {i o n}:Fc (SV.sl i o n) (.sl i o n):=⟨rfl⟩
theorem QBg {s}:Fc (SV.str s) (.str s):=⟨rfl⟩
theorem QFm {f c}:Fc (SV.fn f c) (.fn f c):=⟨rfl⟩
theorem QFj:Fc ([]:List AV) []:=⟨rfl⟩
theorem QFi {a b:AV} {l m:List AV} (h1:Fc a b) (h2:Fc l m):Fc (a::l) (b::m):=⟨by rw [h1.eq,h2.eq]⟩
theorem QHV {a b:SV} (h:Fc a b):Fc (AV.s a) (.s b):=⟨by rw [h.eq]⟩
theorem QA9 {a b:List SV} (h:Fc a b):Fc (AV.agg a) (.agg b):=⟨by rw [h.eq]⟩
theorem QFq {a b:AV} (h:Fc a b):Fc (TV.a a) (.a b):=⟨by rw [h.eq]⟩
theorem QBh {a b:List AV} (h:Fc a b):Fc (TV.tup a) (.tup b):=⟨by rw [h.eq]⟩
theorem QFr:Fc TV.unk .unk:=⟨rfl⟩
theorem QBc {n:Nat}:Fc n n:=⟨rfl⟩
theorem QFk {b:Bool}:Fc b b:=⟨rfl⟩
theorem Qw3 {α:Type}:Fc (none:Option α) none:=⟨rfl⟩
theorem Qw4 {α β:Type} {a a':α} {b b':β} (h1:Fc a a') (h2:Fc b b'):Fc (a,b) (a',b'):=⟨by rw [h1.eq,h2.eq]⟩
theorem QBf {o:Bool} {e e':Nat} {c c':List SV} (h1:Fc e e') (h2:Fc c c'):Fc (Row.mk o e c) ⟨o,e',c'⟩:=⟨by rw [h1.eq,h2.eq]⟩
theorem QFl {v v':TV} {u u':List (Nat × Option Row)} {n n':List (Nat × Row)} (h1:Fc v v') (h2:Fc u u') (h3:Fc n n'):Fc (Ef.mk v u n) ⟨v',u',n'⟩:=⟨by rw [h1.eq,h2.eq,h3.eq]⟩
def wsv (xs:List Nat):List SV:=xs.map fun (x:Nat)=>SV.int .u32 x
@[simp] theorem wsv_length (xs:List Nat):(wsv xs).length=xs.length:=by simp [wsv]
theorem QaX (xs:List Nat) (i:Nat) (h:i<xs.length):(wsv xs)[i]?=some (.int .u32 (xs.getD i 0:Nat)):=by grind [wsv,List.getElem?_eq_getElem,List.getD]
theorem Qaa (xs:List Nat):Qaq (wsv xs)=true:=by
 induction xs with
 | nil=>rfl
 | cons x xs ih=>exact ih
theorem Qcr (xs:List Nat):Qas (wsv xs)=true:=by
 induction xs with
 | nil=>rfl
 | cons x xs ih=>exact ih
theorem QeH {m:List Em} {k n0:Nat} {l:List SV} (h:Qaq l=true):l.map (QcJ m k n0)=l:=by
 induction l with
 | nil=>rfl
 | cons s l ih =>
  unfold Qaq at h
  cases e:s.scal with
  | false=>grind
  | true =>
   rw [e] at h;rw [List.map_cons,ih h];cases s<;>simp [SV.scal] at e<;>rfl
theorem Qvh {m:List Em} {k n0:Nat} {l:List SV} (h:Qaq l=true):Fc (l.map (QcJ m k n0)) l:=⟨QeH h⟩
@[simp] theorem ren_wsv {m:List Em} {k n0:Nat} (xs:List Nat):(wsv xs).map (QcJ m k n0)=wsv xs:=QeH (Qaa xs)
theorem Qa4 {cells:List SV} {n:Nat} (l:List SV) (h:cells.length=n) (e:cells=l:=by rfl):l.length=n/\∀ (j:Nat) s,l[j]?=some s->cells[0+j]?=some s:=by grind
theorem QvF {cells l:List SV} {o n:Nat} (h:(cells.drop o).take n=l) (hn:l.length=n):l.length=n/\∀ (j:Nat) s,l[j]?=some s->cells[o+j]?=some s:=by grind
theorem QFX {cells l:List SV} {o n:Nat} (h:Fc ((cells.drop o).take n) l) (hn:l.length=n):l.length=n/\∀ (j:Nat) s,l[j]?=some s->cells[o+j]?=some s:=QvF h.eq hn
theorem QdU {cells:List SV} {n:Nat} (l:List SV) (h:cells.length=n) (hk:Qas cells=true) (e:cells=l:=by rfl):l.length=n/\Qas l=true/\∀ (j:Nat) s,l[j]?=some s->cells[0+j]?=some s:=by grind
theorem QF2 {cells l:List SV} {o n:Nat} (h:Fc ((cells.drop o).take n) l) (hn:l.length=n) (hk:Qas l=true):l.length=n/\Qas l=true/\∀ (j:Nat) s,l[j]?=some s->cells[o+j]?=some s :=
 ⟨hn,hk,(QvF h.eq hn).2⟩
theorem Qae {P:Program} {det:Bool} {f:FuncId} {l:List AV} {hp:Hp} {n0:Nat} {K:KK} {args:List AV} {H:List Row} {R:Res} (hF:Fn P f args H (. =R)) (m:List Em) (fp:List (Nat × Row)) (h2:l=args.map (Qc0 m H.length n0)) (h3:QBq hp fp)
  (h4:QiD m H.length n0 0 m H fp) (h5:Nat.ble R.nw.length Qap=true/\∀ p∈R.up,p.1<H.length) (k:Vl (R.ef m H.length n0) fun e=>K fp e):Cll P det f l hp n0 K :=
 .mk args H m fp _ hF h2 h3 h4 (fun _ e=>e ▸ ⟨Nat.le_of_ble_eq_true h5.1,h5.2⟩) (fun _=>⟨R,rfl⟩) (fun _ e=>e ▸ k)
theorem Qbm {H:List Row}:∀ p∈([]:List (Nat × Option Row)),p.1<H.length:=fun _ h=>by cases h
theorem Qac {P:Program} {det:Bool} {f:FuncId} {l:List AV} {hp:Hp} {n0:Nat} {K:KK} {args:List AV} {v:TV} (hF:Fn P f args [] (. =⟨v,[],[]⟩)) (h2:l=args.map (Qc0 [] 0 n0)) (k:Vl (QB7 [] 0 n0 v) fun v=>K [] ⟨v,[],[]⟩):Cll P det f l hp n0 K :=
 Qae hF [] [] h2 trivial trivial ⟨rfl,Qbm⟩ (by obtain ⟨_,h,k⟩:=k;exact ⟨_,rfl,by rw [<- h] at k;exact k⟩)
theorem Qar {mm:List Em} {k n0 i n es:Nat} {cells:List SV} {own:Bool} (h:Qaq cells=true):QdY mm k n0 i ⟨n,0⟩ ⟨false,es,cells⟩ ⟨own,es,cells⟩ :=
 ⟨rfl,fun q s hs=>by
  simp only [] at hs |-;rw [Nat.zero_add,hs];have:=QcR h s (List.mem_of_getElem? hs)
  cases s<;>simp [SV.scal] at this<;>rfl,by simp,fun h=>by cases h⟩
theorem Qyi {mm:List Em} {k n0 i n es:Nat} {cells:List SV} (h:Qaq cells=true) (hi:∀ (j:Nat) (f:Em),mm[j]?=some f->j≠i->f.n≠n):QdY mm k n0 i ⟨n,0⟩ ⟨true,es,cells⟩ ⟨true,es,cells⟩ :=
 ⟨rfl,fun q s hs=>by
  simp only [] at hs |-;rw [Nat.zero_add,hs];have:=QcR h s (List.mem_of_getElem? hs)
  cases s<;>simp [SV.scal] at this<;>rfl,by simp,fun _=>⟨rfl,rfl,rfl,hi⟩⟩
def QyG:AV->Bool
 | .s s=>s.scal
 | .agg l=>Qaq l
def Qml:List AV->Bool
 | []=>true
 | x::l=>QyG x&&Qml l
def QyH:TV->Bool
 | .unk=>true
 | .a x=>QyG x
 | .tup l=>Qml l
theorem Qaj {m:Rn}:∀ {l:List SV},Qaq l=true->SVsM m l l
 | [],_=> .nil
 | s::l,h=>by
  unfold Qaq at h;split at h
  .rename_i hs;exact .cons (Qf2 hs) (Qaj h)
  .cases h
theorem Qlz {m:Rn}:∀ {x:AV},QyG x=true->AVm m x x
 | .s _,h=>Qf2 h
 | .agg _,h=>Qaj h
theorem QiM {m:Rn}:∀ {l:List AV},Qml l=true->Qss m l l
 | [],_=>trivial
 | x::l,h=>by
  unfold Qml at h;simp at h;exact ⟨Qlz h.1,QiM h.2⟩
theorem Qmx {m:Rn}:∀ {x:TV},QyH x=true->TVm m x x
 | .unk,_=>trivial
 | .a _,h=>⟨_,rfl,Qlz h⟩
 | .tup _,h=>⟨_,rfl,QiM h⟩
theorem Qam {σ:St} {x v:TV} (hs:QyH v=true) (e:x=v):Fin [] (. =⟨v,[],[]⟩) σ x:=by
 subst e;exact Fin.mk _ [] rfl (Qmx hs) trivial rfl
theorem Qbb {l l':List SV} (h:Qaq l=true) (h':Qaq l'=true):Qaq (l++l')=true:=by
 induction l with
 | nil=>exact h'
 | cons s l ih=>grind [Qaq]
theorem QcH {m:Rn} {z y:AV} (h:AVm m z y):TVm m (.a z) (.a y):=⟨_,rfl,h⟩
theorem Qis {m:Rn} {z y:List AV} (h:Qss m z y):TVm m (.tup z) (.tup y):=⟨_,rfl,h⟩
theorem Qkh {m:Rn} {z y:List SV} (h:SVsM m z y):AVm m (.agg z) (.agg y):=h
theorem Qct {m:Rn} {z y:SV} (h:SVm m z y):AVm m (.s z) (.s y):=h
theorem QfH {m:Rn}:Qss m [] []:=trivial
theorem Qen {m:Rn} {x y:AV} {l l':List AV} (h:AVm m x y) (h':Qss m l l'):Qss m (x::l) (y::l'):=⟨h,h'⟩
theorem QrL {m:Rn} {n c o:Nat} (h:QaW m n=some (some c)):SVm m (.ptr c o) (.ptr n o):=⟨c,h,rfl⟩
theorem Qcy {m:Rn} {n c o k:Nat} (h:QaW m n=some (some c)):SVm m (.sl c o k) (.sl n o k):= .inl ⟨c,h,rfl⟩
theorem QeL {m:Rn} {n o:Nat} (h:QaW m n=some none):SVm m .nilsl (.sl n o 0):= .inr ⟨h,rfl,rfl⟩
theorem QjQ {m:Rn} {es:Nat}:SVm m .nilsl (.fz es 0 []):= .inr ⟨rfl,rfl,rfl⟩
theorem QaL {m:Rn} {hp:Hp} {s:List Nat}:HlS m hp s []:=trivial
theorem QfQ {m:Rn} {hp:Hp} {s:List Nat} {p:Nat × Option Row} {l:Hl} (h:QcW p.1 s=true) (h':HlS m hp (p.1::s) l):HlS m hp s (p::l):=⟨by rw [h];trivial,h'⟩
theorem Qh3 {m:Rn} {hp:Hp} {s:List Nat} {n:Nat} {l:Hl} (h':HlS m hp (n::s) l):HlS m hp s ((n,none)::l):=⟨by cases QcW n s<;>trivial,h'⟩
theorem Qat {m:Rn} {hp:Hp} {s:List Nat} {n:Nat} {r:Row} {l:Hl} (h:RowMt m hp n r) (h':HlS m hp (n::s) l):HlS m hp s ((n,some r)::l):=⟨by cases QcW n s;exact h;trivial,h'⟩
theorem Qan {m:Rn} {hp:Hp} {n c:Nat} {r r':Row} (h1:QaW m n=some (some c)) (h2:hp c=some r) (h3:r.es=r'.es) (h4:(!r'.own||(r.own&&Qz3 m n c))=true) (h5:SVsM m r.cells r'.cells):RowMt m hp n r' :=
 .inl ⟨c,r,h1,h2,h3,fun h=>by rw [h] at h4;simpa using h4,h5⟩
theorem QcM {m:Rn} {hp:Hp} {n:Nat} {r':Row} (h1:QaW m n=some none) (h2:r'.cells= []):RowMt m hp n r':= .inr ⟨h1,h2⟩
theorem Qxj {m:Rn} {hp fP:Hp} {s:List Nat}:QcI m hp fP s []:=trivial
theorem Qto {m:Rn} {hp fP:Hp} {s:List Nat} {p:Nat × Option Row} {l:Hl} (h:QcW p.1 s=true) (h':QcI m hp fP (p.1::s) l):QcI m hp fP s (p::l):=⟨by rw [h];trivial,h'⟩
theorem Qtn {m:Rn} {hp fP:Hp} {s:List Nat} {n:Nat} {l:Hl} (h':QcI m hp fP (n::s) l):QcI m hp fP s ((n,none)::l):=⟨by cases QcW n s<;>trivial,h'⟩
theorem Qxk {m:Rn} {hp fP:Hp} {s:List Nat} {n:Nat} {r:Row} {l:Hl} (h:QuP m hp fP n r) (h':QcI m hp fP (n::s) l):QcI m hp fP s ((n,some r)::l):=⟨by cases QcW n s;exact h;trivial,h'⟩
theorem Qyj {m:Rn} {hp fP:Hp} {n c:Nat} {r r':Row} (h1:QaW m n=some (some c)) (h2:hp c=some r) (h3:r.es=r'.es) (h4:(!r'.own||(r.own&&QEr m fP n c))=true) (h5:SVsM m r.cells r'.cells):QuP m hp fP n r' :=
 .inl ⟨c,r,h1,h2,h3,fun h=>by rw [h] at h4;simpa using h4,h5⟩
theorem Qt2 {m:Rn} {hp fP:Hp} {n:Nat} {r':Row} (h1:QaW m n=some none) (h2:r'.cells= []):QuP m hp fP n r':= .inr ⟨h1,h2⟩
theorem Qa1 {m:Rn} {tm:Nat->TV}:TmL m tm []:=trivial
theorem QaQ {m:Rn} {tm:Nat->TV} {t:Nat} {v:TV} {l:Tm} (h:TVm m (tm t) v) (h':TmL m tm l):TmL m tm ((t,v)::l):=⟨h,h'⟩
theorem QaJ {m:Rn} {s:SV} (h:s.scal=true):SVm m s s:=Qf2 h
def QAa (n:Nat):Nat->Nat->List Em->Bool
 | _,_,[]=>true
 | i,j,f::l=>(Nat.beq j i|| !Nat.beq f.n n)&&QAa n i (j+1) l
theorem QqI {n i:Nat}:∀ {l:List Em} {s:Nat},QAa n i s l=true->∀ (j:Nat) (f:Em),l[j]?=some f->s+j≠i->f.n≠n
 | f::l,s,h,0,g,e,fY=>by
  injection e with e;subst e
  unfold QAa at h;rw [Bool.and_eq_true,Bool.or_eq_true] at h;rcases h.1 with h|h
  .simp_all
  .intro e
   rw [e,Nat.beq_refl] at h;cases h
 | f::l,s,h,j+1,g,e,fY=>by
  unfold QAa at h;rw [Bool.and_eq_true] at h;exact QqI h.2 j g e (by omega)
theorem QaH {mm:List Em} {k n0 i n es:Nat} {cells:List SV} (h:Qaq cells=true) (ho:QAa n i 0 mm=true):QdY mm k n0 i ⟨n,0⟩ ⟨true,es,cells⟩ ⟨true,es,cells⟩ :=
 Qyi h fun j f hj fY=>QqI ho j f hj (by omega)
theorem Qca {mm:List Em} {k n0 i n es:Nat} {cells cells':List SV} (h:cells'=cells.map (QcJ mm k n0)) (ho:QAa n i 0 mm=true):QdY mm k n0 i ⟨n,0⟩ ⟨true,es,cells⟩ ⟨true,es,cells'⟩:=by
 subst h;exact ⟨rfl,fun q s hs=>by simp only [] at hs |-;rw [Nat.zero_add,List.getElem?_map,hs];rfl,by simp,fun _=>⟨rfl,rfl,by simp,fun j f hj fY=>QqI ho j f hj (by omega)⟩⟩
theorem Qmi {mm:List Em} {k n0 i n es:Nat} {own:Bool} {cells cells':List SV} (h:cells'=cells.map (QcJ mm k n0)):QdY mm k n0 i ⟨n,0⟩ ⟨false,es,cells⟩ ⟨own,es,cells'⟩:=by
 subst h;exact ⟨rfl,fun q s hs=>by simp only [] at hs |-;rw [Nat.zero_add,List.getElem?_map,hs];rfl,by simp,fun h=>by cases h⟩
theorem Qzm (a b:List Nat):wsv (a++b)=wsv a++wsv b:=by unfold wsv;rw [List.map_append]
def upB (n:Nat):List (Nat × Option Row)->Bool
 | []=>true
 | p::l=>Nat.ble (p.1+1) n&&upB n l
theorem QbK {n:Nat}:∀ {l:List (Nat × Option Row)},upB n l=true->∀ p∈l,p.1<n
 | q::l,h,p,hp=>by
  unfold upB at h;rw [Bool.and_eq_true] at h;rcases List.mem_cons.1 hp with e|e
  .subst e;exact Nat.le_of_ble_eq_true h.1
  .exact QbK h.2 p e
theorem d1 {p:Prop} [Decidable p]:(decide p=true)=p:=decide_eq_true_eq
theorem d2 {p:Prop} [Decidable p]:decide p=false↔¬ p:=decide_eq_false_iff_not
theorem d3 {α:Type} [BEq α] [LawfulBEq α] {a b:α}:(a==b)=false↔a≠b:=beq_eq_false_iff_ne
theorem d4 {α:Type} [BEq α] [LawfulBEq α] {a b:α}:(a !=b)=false↔a=b:=bne_eq_false_iff_eq
theorem d5 (b:Bool):((!b)=true)=(b=false):=Bool.not_eq_true' b
theorem d6 {b:Bool}:((!b)=false)=(b=true):=Bool.not_eq_false' b
theorem d7 {a:Prop}:¬ ¬ a↔a:=Classical.not_not
theorem aAr {P:Prop} (h:P:=by (first|(with_reducible exact Qop _ _ _ _)|((rewrite [Qmu]);(focus (first|exact Qb3 (by omega) (by omega)|exact QeO (by omega) (by omega)|exact Qsq (by omega) (by omega)));omega)|exact Qf3 (by omega)|exact Qb3 (by omega) (by omega)|exact QeO (by omega) (by omega)|exact Qce _|exact wu8 (by omega) (by omega)|exact QCR (by omega) (by omega)|exact Qsq (by omega) (by omega)|rfl)):P:=h
theorem aCl {P:Prop} (h:P:=by (first|exact QjM rfl|exact Qa4 _ rfl|exact QdU _ rfl rfl|((first|apply QFX|apply QF2|(apply QBa;(conv=>arg 1;whnf);apply QpL)|apply QBa);(repeat' (first|exact Qvh (Qaa _)|exact Qvh (by assumption)|((conv=>arg 1;whnf);first|exact QBd|apply Qw2|exact QBb|exact Qw1|exact QHU|exact QFo|exact QBe|exact QFp|exact QBg|exact QFn|exact QBi|exact QFm|apply QHV|apply QA9|apply QFq|apply QBh|exact QFj|apply QFi|exact QFr|exact QBc|exact QFk|exact Qw3|apply QpL|apply Qw4|apply QBf|apply QFl)));(all_goals exact rfl))|((dsimp only [Res.ef,QB7,Qc0,QcJ,Qc1,nwN,upN,Qdq,List.map_cons,List.map_nil,List.length_cons,List.length_nil]);first|done|exact rfl)|(dsimp only [QaB,List.set_cons_zero,List.set_cons_succ,List.cons_append,List.nil_append];exact rfl)|exact rfl)):P:=h
theorem aSd {P:Prop} (h:P:=by (first|exact rfl|trivial|omega|(repeat' apply And.intro)<;>first|exact rfl|exact Nat.le_of_ble_eq_true rfl|omega|decide)):P:=h
theorem aNt {P:Prop} (h:P:=by ((try simp only [QHb,QHa,Int.toNat_natCast,Int.toNat_zero,Int.toNat_one,Nat.zero_add,Nat.zero_mul,Nat.mul_one,Nat.one_mul,Nat.add_zero,Int.sub_zero,Option.getD_some,Option.getD_none,Int.toNat_natCast_add_one]);exact rfl)):P:=h
theorem aS2 {P:Prop} (h:P:=by (repeat' apply And.intro)<;>(try simp only [QHb,QHa,Int.toNat_natCast,Int.toNat_zero,Int.toNat_one,Nat.zero_add,Nat.zero_mul,Nat.mul_one,Nat.one_mul,Nat.add_zero,Int.sub_zero,Option.getD_some,Option.getD_none,Int.toNat_natCast_add_one])<;>first|exact rfl|omega):P:=h
theorem aFi {P:Prop} (h:P:=by ((repeat' (first|exact SVsM.nil|exact QfH|exact QaJ rfl|exact QrL rfl|exact Qcy rfl|exact QeL rfl|exact QjQ|exact Qaj rfl|exact Qaj (Qaa _)|exact Qaj (by assumption)|exact QaL|apply SVsM.cons|apply QcH|apply Qis|apply Qkh|apply Qct|apply Qen|exact trivial|(refine QfQ rfl ?_)|apply Qh3|apply Qat|(refine Qan rfl rfl rfl rfl ?_)|exact QcM rfl rfl|exact Qxj|(refine Qto rfl ?_)|apply Qtn|apply Qxk|(refine Qyj rfl rfl rfl rfl ?_)|exact Qt2 rfl rfl));first|done|fail)):P:=h
theorem aKl {b c:Bool} {P:Prop} (hb:b=c) (h:¬ (b=c):=by intro hb;first|(exact absurd hb (by decide))|exact Bool.noConfusion (hb.symm.trans (by assumption):true=false)|exact Bool.noConfusion (hb.symm.trans (by assumption):false=true)):P:=absurd hb h
theorem aK2 {b c:Bool} {P:Prop} (hb:b=c) (h:¬ (b=c):=by first|(intro hb;first|(exact absurd hb (by decide))|exact Bool.noConfusion (hb.symm.trans (by assumption):true=false)|exact Bool.noConfusion (hb.symm.trans (by assumption):false=true))|(simp only [beq_self_eq_true,Bool.and_true,Bool.and_self,reduceCtorEq,false_implies,bne_self_eq_false,imp_false,not_true_eq_false,not_false_eq_true,Bool.true_eq_false,Bool.false_eq_true];first|done|fail)):P:=absurd hb h
theorem QB3 {m:List Em} {k n0:Nat}:([]:List AV)=([]:List AV).map (Qc0 m k n0):=rfl
theorem QH0 {m:List Em} {k n0:Nat} {C:List SV} {l l':List AV} (h:Qaq C=true) (t:l=l'.map (Qc0 m k n0)):AV.agg C::l=(AV.agg C::l').map (Qc0 m k n0):=by rw [List.map_cons,<- t];show _=AV.agg (C.map (QcJ m k n0))::l;rw [QeH h]
theorem QH1 {m:List Em} {k n0:Nat} {a b:AV} {l l':List AV} (h:b=Qc0 m k n0 a) (t:l=l'.map (Qc0 m k n0)):b::l=(a::l').map (Qc0 m k n0):=by rw [List.map_cons,<- t,<- h]
theorem aRn {P:Prop} (h:P:=by first|exact rfl|(repeat' first|exact QB3|(refine QH0 (by assumption) ?_)|(refine QH1 rfl ?_));first|done|fail):P:=h
theorem sdk {p K:Prop} (h:p):K->Sd p K:=fun k=> .mk h k
theorem sdd {all:List Oper} {ds:List Did} {k:Prop} (h:QoX all ds=true):k->Sd (Qd1 all ds=true) k:=fun q=>QyI h q
theorem vlk {α:Type} {e z:α} {K:α->Prop} (h:e=z):K z->Vl e K:=fun k=> .mk z h k
theorem gek {α:Type} {e:Option α} {z:α} {K:α->Prop} (h:e=some z):K z->Ge e K:=fun k=> .mk z h k
theorem sgk {c:List SV} {o n:Nat} {K:List SV->Prop} {l:List SV} (h:l.length=n/\∀ (j:Nat) s,l[j]?=some s->c[o+j]?=some s):K l->Sg c o n K:=fun k=> .mk l h k
theorem skk {c:List SV} {o n:Nat} {K:List SV->Prop} {l:List SV} (h:l.length=n/\Qas l=true/\∀ (j:Nat) s,l[j]?=some s->c[o+j]?=some s):K l->Sk c o n K:=fun k=> .mk l h k
theorem QE1 {p q:Prop} (h:p):q->p/\q:=fun k=>⟨h,k⟩
theorem zst {P Q:Prop} (k:Q) (h:Q->P:=by (first|((with_reducible apply vlk (α:=Nat));exact aNt)|((with_reducible apply sdd);kernel_rfl)|(apply sdk;exact aSd)|((with_reducible apply vlk (α:=Int));exact aAr)|((with_reducible first|apply vlk (α:=Bool)|apply vlk (α:=Nat)|apply vlk (α:=ByteArray)|apply gek (α:=Row)|apply gek (α:=SV)|apply gek (α:=AV));exact rfl)|(exact QE1 rfl)|((with_reducible first|apply vlk (α:=List SV)|apply vlk (α:=Ef)|apply vlk (α:=TV)|apply gek (α:=List SV)|apply sgk|apply skk);exact aCl)|(apply sdk;exact aS2))):P:=h k
theorem zs0 {P Q:Prop} (k:Q) (h:Q->P:=by (first|((with_reducible apply sdd);kernel_rfl)|(apply sdk;exact aSd)|((with_reducible apply vlk (α:=Int));exact aAr)|((with_reducible first|apply vlk (α:=Bool)|apply vlk (α:=Nat)|apply vlk (α:=ByteArray)|apply gek (α:=Row)|apply gek (α:=SV)|apply gek (α:=AV));exact rfl)|(exact QE1 rfl)|((with_reducible first|apply vlk (α:=List SV)|apply vlk (α:=Ef)|apply vlk (α:=TV)|apply gek (α:=List SV)|apply sgk|apply skk);exact aCl))):P:=h k
theorem zk0 {b c:Bool} {P:Prop} (hb:b=c) (h:¬ (b=c):=by (intro hb;(first|exact aKl hb|(simp only [d1,d2,beq_iff_eq,bne_iff_ne,d3,d4,d5,d6,Int.not_lt,Int.not_le,ge_iff_le,gt_iff_lt,ne_eq,d7] at hb;first|done|(exfalso;omega)));first|done|fail)):P:=absurd hb h
theorem zk1 {b c:Bool} {P:Prop} (hb:b=c) (h:¬ (b=c):=by (intro hb;(first|exact aKl hb|(exfalso;revert hb;simp;done)|(simp only [d1,d2,beq_iff_eq,bne_iff_ne,d3,d4,d5,d6,Int.not_lt,Int.not_le,ge_iff_le,gt_iff_lt,ne_eq,d7] at hb;first|done|(exfalso;omega)|(exfalso;simp_all;first|done|fail)));first|done|fail)):P:=absurd hb h
theorem zk2 {b c:Bool} {P:Prop} (hb:b=c) (h:¬ (b=c):=by (intro hb;(first|exact aK2 hb|(simp only [d1,d2,beq_iff_eq,bne_iff_ne,d3,d4,d5,d6,Int.not_lt,Int.not_le,ge_iff_le,gt_iff_lt,ne_eq,d7] at hb;first|done|(exfalso;omega)));first|done|fail)):P:=absurd hb h
theorem zk3 {b c:Bool} {P:Prop} (hb:b=c) (h:¬ (b=c):=by (intro hb;(first|(exfalso;simp only [decide_eq_true_eq,decide_eq_false_iff_not,beq_iff_eq,beq_eq_false_iff_ne,ne_eq] at hb;omega)|exact aK2 hb|(simp only [d1,d2,beq_iff_eq,bne_iff_ne,d3,d4,d5,d6,Int.not_lt,Int.not_le,ge_iff_le,gt_iff_lt,ne_eq,d7] at hb;first|done|(exfalso;omega)));first|done|fail)):P:=absurd hb h
theorem zk4 {b c:Bool} {P:Prop} (hb:b=c) (h:¬ (b=c):=by (intro hb;(first|(exfalso;simp only [decide_eq_true_eq,decide_eq_false_iff_not,beq_iff_eq,bne_iff_ne,beq_eq_false_iff_ne,bne_eq_false_iff_eq,ne_eq,Int.not_lt,Int.not_le,Classical.not_not] at hb;omega)|(exfalso;simp at hb;first|done|fail));first|done|fail)):P:=absurd hb h
theorem zn0 {b c:Bool} {Q:Prop} (hb:b=c) (h:b=c->Q:=by (intro hb;simp only [d1,d2,beq_iff_eq,bne_iff_ne,d3,d4,d5,d6,Int.not_lt,Int.not_le,ge_iff_le,gt_iff_lt,ne_eq,d7] at hb;exact hb)):Q:=h hb
theorem zn4 {b c:Bool} {Q:Prop} (hb:b=c) (h:b=c->Q:=by (intro hb;(simp only [decide_eq_true_eq,decide_eq_false_iff_not,beq_iff_eq,bne_iff_ne,beq_eq_false_iff_ne,bne_eq_false_iff_eq,ne_eq,Int.not_lt,Int.not_le,Classical.not_not] at hb);exact hb)):Q:=h hb
theorem zi0 {b c:Bool} {P:Prop} (h:¬ (b=c):=by (intro hb;(first|exact aKl hb|(simp only [d1,d2,beq_iff_eq,bne_iff_ne,d3,d4,d5,d6,Int.not_lt,Int.not_le,ge_iff_le,gt_iff_lt,ne_eq,d7] at hb;first|done|(exfalso;omega)));first|done|fail)):b=c->P:=fun e=>absurd e h
theorem zi1 {b c:Bool} {P:Prop} (h:¬ (b=c):=by (intro hb;(first|exact aKl hb|(exfalso;revert hb;simp;done)|(simp only [d1,d2,beq_iff_eq,bne_iff_ne,d3,d4,d5,d6,Int.not_lt,Int.not_le,ge_iff_le,gt_iff_lt,ne_eq,d7] at hb;first|done|(exfalso;omega)|(exfalso;simp_all;first|done|fail)));first|done|fail)):b=c->P:=fun e=>absurd e h
theorem zi2 {b c:Bool} {P:Prop} (h:¬ (b=c):=by (intro hb;(first|exact aK2 hb|(simp only [d1,d2,beq_iff_eq,bne_iff_ne,d3,d4,d5,d6,Int.not_lt,Int.not_le,ge_iff_le,gt_iff_lt,ne_eq,d7] at hb;first|done|(exfalso;omega)));first|done|fail)):b=c->P:=fun e=>absurd e h
theorem zi3 {b c:Bool} {P:Prop} (h:¬ (b=c):=by (intro hb;(first|(exfalso;simp only [decide_eq_true_eq,decide_eq_false_iff_not,beq_iff_eq,beq_eq_false_iff_ne,ne_eq] at hb;omega)|exact aK2 hb|(simp only [d1,d2,beq_iff_eq,bne_iff_ne,d3,d4,d5,d6,Int.not_lt,Int.not_le,ge_iff_le,gt_iff_lt,ne_eq,d7] at hb;first|done|(exfalso;omega)));first|done|fail)):b=c->P:=fun e=>absurd e h
theorem zi4 {b c:Bool} {P:Prop} (h:¬ (b=c):=by (intro hb;(first|(exfalso;simp only [decide_eq_true_eq,decide_eq_false_iff_not,beq_iff_eq,bne_iff_ne,beq_eq_false_iff_ne,bne_eq_false_iff_eq,ne_eq,Int.not_lt,Int.not_le,Classical.not_not] at hb;omega)|(exfalso;simp at hb;first|done|fail));first|done|fail)):b=c->P:=fun e=>absurd e h
theorem zj0 {b c:Bool} {P Q:Prop} (k:Q->P) (h:b=c->Q:=by first|(intro hb;simp only [d1,d2,beq_iff_eq,bne_iff_ne,d3,d4,d5,d6,Int.not_lt,Int.not_le,ge_iff_le,gt_iff_lt,ne_eq,d7] at hb;exact hb)|exact id):b=c->P:=fun e=>k (h e)
theorem zj4 {b c:Bool} {P Q:Prop} (k:Q->P) (h:b=c->Q:=by first|(intro hb;(simp only [decide_eq_true_eq,decide_eq_false_iff_not,beq_iff_eq,bne_iff_ne,beq_eq_false_iff_ne,bne_eq_false_iff_eq,ne_eq,Int.not_lt,Int.not_le,Classical.not_not] at hb);exact hb)|exact id):b=c->P:=fun e=>k (h e)
theorem zv {e z:Int} {K:Int->Prop} (h:e=z) (k:K z):Vl e K:= .mk z h k
theorem zbx {b:Bool} {A B:Prop} (ka:b=true->A) (kb:b=false->B):Br b A B:= .mk ka kb
theorem zgx {b v w:Bool} {A B:Prop} (ka:b=v->A) (kb:b=w->B):Gd b v w A B:= .mk ka kb
theorem zbb {P A B:Prop} (ka:A) (kb:B) (h:A->B->P:=by first|exact zbx|exact zgx):P:=h ka kb
theorem zca {α:Type _} {a:α} {l r:List α}:(a::l)++r=a::(l++r):=rfl
theorem zna {α:Type _} (l:List α): []++l=l:=rfl
theorem zde {p:Prop} [Decidable p]:(decide p=true)=p:=decide_eq_true_eq
theorem zgg {α:Type _} {l:List α} {i:Nat} (h:i<l.length):l[i]?=some l[i]:=List.getElem?_eq_getElem h
theorem zgs {α:Type _} {l:List α} {i:Nat} {a:α}:l[i]?=some a↔∃ h:i<l.length,l[i]=a:=List.getElem?_eq_some_iff
theorem zba (a b:Bool):((a&&b)=true)=(a=true/\b=true):=Bool.and_eq_true a b
theorem zdz {α:Type _} {x:α} {l:List α} {d:α}:(x::l).getD 0 d=x:=rfl
theorem zds {α:Type _} {x:α} {l:List α} {n:Nat} {d:α}:(x::l).getD (n+1) d=l.getD n d:=rfl
theorem zdt {p:Prop} [h:Decidable p]:p->decide p=true:=decide_eq_true
theorem zdf {p:Prop} [h:Decidable p]:¬ p->decide p=false:=decide_eq_false
theorem zbq {n m:Nat}:Nat.beq n m=true->n=m:=Nat.eq_of_beq_eq_true
theorem zgr {α:Type _} {l r:List α} {i:Nat} (h:l.length<=i):(l++r)[i]?=r[i-l.length]?:=List.getElem?_append_right h
theorem zgl {α:Type _} {l r:List α} {i:Nat} (h:i<l.length):(l++r)[i]?=l[i]?:=List.getElem?_append_left h
theorem zbi {a b:Bool}:a=b↔(a=true↔b=true):=Bool.eq_iff_iff
theorem zgd {α:Type _} {l:List α} {i:Nat} {a:α}:l.getD i a=l[i]?.getD a:=List.getD_eq_getElem?_getD
theorem zgm {α:Type _} {β:Type _} {f:α->β} {l:List α} {i:Nat}:(l.map f)[i]?=Option.map f l[i]?:=List.getElem?_map
theorem zbf (b:Bool):(false&&b)=false:=rfl
theorem zla {α:Type _} {l r:List α}:(l++r).length=l.length+r.length:=List.length_append
abbrev ZL (l:List Nat):Prop:=∀ y∈l,y<4294967296
abbrev ZU (a:Nat):Prop:=a<4294967296
abbrev FN (f:FuncId) (a:List AV) (H:List Row) (Q:Res->Prop):Prop:=Fn Tryz.prog f a H Q
theorem zN {c:Prop} {h:Decidable c} (n:¬c) {α:Sort _} {t e:α}:ite c t e=e:=if_neg n
theorem zP {c:Prop} {h:Decidable c} (n:c) {α:Sort _} {t e:α}:ite c t e=t:=if_pos n
theorem zq0 {P Q:Prop} (k:Q) (h:Q->P:=by (with_reducible apply vlk (α:=List SV));(with_reducible refine QFW ?_);exact rfl):P:=h k
theorem zq1 {P Q:Prop} (k:Q) (h:Q->P:=by apply sgk;first|exact Qa4 CC gS|exact Qa4 C3 gC):P:=h k
theorem zq2 {P Q:Prop} (k:Q) (h:Q->P:=by with_reducible first|exact vlk p1|exact vlk p2|exact vlk p3|exact vlk p4|exact vlk p5):P:=h k
theorem zq3 {P Q:Prop} (k:Q) (h:Q->P:=by (with_reducible apply vlk (α:=List SV));(with_reducible refine QCj ?_);exact rfl):P:=h k
theorem zq4 {P Q:Prop} (k:Q) (h:Q->P:=by (with_reducible apply vlk (α:=List SV));exact fD _ (by first|rfl|assumption)):P:=h k
theorem zq5 {P Q:Prop} (k:Q) (h:Q->P:=by apply sdk;first|exact ⟨jE,wV,rfl,(by show 0+C3.length<=25;omega)⟩|exact ⟨jI,qZ,rfl,(by show 0+C2.length<=CC.length;omega)⟩|(refine ⟨rfl,rfl,rfl,?_⟩;show 16+1<=C2.length;omega)|(show (0:Int)<=A/\(A:Int)<16;omega)|(show (0:Int)<=B/\(B:Int)<16;omega)):P:=h k
theorem zq6 {P Q:Prop} (k:Q) (h:Q->P:=by (with_reducible apply vlk (α:=Nat));with_reducible exact x1):P:=h k
theorem zq7 {P Q:Prop} (k:Q) (h:Q->P:=by (with_reducible apply vlk (α:=List SV));with_reducible exact gY):P:=h k
theorem zq8 {P Q:Prop} (k:Q) (h:Q->P:=by apply sdk;first|exact ⟨gS,qL,rfl,(by show 0+CC.length<=25;omega)⟩|exact ⟨gC,gR,rfl,(by show 0+C3.length<=25;omega)⟩|exact ⟨gS,qL,rfl,(by show 0+CC.length<=C3.length;omega)⟩|exact ⟨gC,gR,rfl,(by show 0+C3.length<=CC.length;omega)⟩|(show (0:Int)<=A/\(A:Int)<16;omega)|(show (0:Int)<=B/\(B:Int)<16;omega)|(refine ⟨rfl,rfl,rfl,?_⟩;show 0+16+1<=CC.length;omega)|(refine ⟨rfl,rfl,rfl,?_⟩;show 0+16+1<=C3.length;omega)):P:=h k
theorem zq9 {P Q:Prop} (k:Q) (h:Q->P:=by apply sdk;first|exact ⟨gC,gR,rfl,(by show 0+C3.length<=25;omega)⟩|(show (0:Int)<=A/\(A:Int)<16;omega)|(show (0:Int)<=B/\(B:Int)<16;omega)|(refine ⟨rfl,rfl,rfl,?_⟩;show 0+16+1<=CC.length;omega)):P:=h k
theorem QAi {P Q:Prop} (k:Q) (h:Q->P:=by apply sdk;first|omega|(show (0:Int)<=_/\_<_;omega)|exact ⟨rfl,rfl,rfl,Nat.le_trans qD (Nat.le_of_ble_eq_true rfl)⟩):P:=h k
theorem QGz {P Q:Prop} (k:Q) (h:Q->P:=by apply sdk;first|exact ⟨gC,gR,rfl,(by show 0+C3.length<=25;omega)⟩|exact ⟨qK,jQ,rfl,(by show 0+C2.length<=CC.length;omega)⟩|(show (0:Int)<=B/\(B:Int)<16;omega)|(refine ⟨rfl,rfl,rfl,?_⟩;show 0+16+1<=C2.length;omega)):P:=h k
theorem QvR {P Q:Prop} (k:Q) (h:Q->P:=by apply sdk;first|omega|exact ⟨rfl,rfl,rfl,Nat.le_trans qD (Nat.le_of_ble_eq_true rfl)⟩):P:=h k
theorem QCU {P Q:Prop} (k:Q) (h:Q->P:=by (with_reducible apply vlk (α:=List SV));first|exact qW|exact wJ _ (by first|rfl|assumption)|exact fD _ (by first|rfl|assumption)):P:=h k
theorem QmE {P Q:Prop} (k:Q) (h:Q->P:=by (with_reducible apply gek (α:=SV));exact g0):P:=h k
theorem QvS {P Q:Prop} (k:Q) (h:Q->P:=by apply sdk;exact ⟨gC,gR,rfl,(by show 0+C3.length<=25;omega)⟩):P:=h k
theorem Qfy {P Q:Prop} (k:Q) (h:Q->P:=by apply sgk;exact seg):P:=h k
theorem Qek {P Q:Prop} (k:Q) (h:Q->P:=by apply sdk;omega):P:=h k
theorem Qn4 {P Q:Prop} (k:Q) (h:Q->P:=by apply sdk;exact ⟨rfl,Int.natCast_nonneg _⟩):P:=h k
theorem QCV {P Q:Prop} (k:Q) (h:Q->P:=by with_reducible first|exact vlk p1|exact vlk p2|exact vlk p3|exact vlk p4|exact vlk p5|exact vlk p6):P:=h k
theorem QhE {P Q:Prop} (k:Q) (h:Q->P:=by with_reducible exact vlk q2):P:=h k
theorem QEH {P Q:Prop} (k:Q) (h:Q->P:=by (with_reducible apply vlk (α:=List SV));first|exact VI _ (by first|rfl|assumption)|exact fD _ (by first|rfl|assumption)):P:=h k
theorem QHd {P Q:Prop} (k:Q) (h:Q->P:=by apply sdk;first|exact ⟨gC,gR,rfl,(by show 0+C3.length<=25;omega)⟩|(show (0:Int)<=B/\(B:Int)<16;omega)):P:=h k
theorem QvT {P Q:Prop} (k:Q) (h:Q->P:=by (with_reducible apply vlk (α:=Nat));with_reducible exact ix1):P:=h k
theorem QHe {P Q:Prop} (k:Q) (h:Q->P:=by apply sdk;first|exact ⟨jE,wV,rfl,(by show 0+C3.length<=25;omega)⟩|(refine ⟨rfl,rfl,rfl,?_⟩;show 16+1<=CC.length;omega)|(show (0:Int)<=A/\(A:Int)<16;omega)|(show (0:Int)<=B/\(B:Int)<16;omega)):P:=h k
theorem QCW {P Q:Prop} (k:Q) (h:Q->P:=by (with_reducible apply vlk (α:=List SV));first|exact wF|exact qW|exact yS _ rfl):P:=h k
theorem Qsr {P Q:Prop} (k:Q) (h:Q->P:=by with_reducible exact vlk GP):P:=h k
theorem QvU {P Q:Prop} (k:Q) (h:Q->P:=by (with_reducible apply vlk (α:=Nat));exact ldi a):P:=h k
theorem QHf {P Q:Prop} (k:Q) (h:Q->P:=by apply sdk;first|exact ⟨gC,gR,rfl,(by show 0+C3.length<=25;omega)⟩|exact ⟨gC,gR,rfl,(by show 0+C3.length<=CC.length;omega)⟩|exact ⟨el,ek,rfl,(by show 0+EE.length<=4;omega)⟩):P:=h k
theorem Qzo {P Q:Prop} (k:Q) (h:Q->P:=by apply sgk;first|exact Qa4 C3 jE|exact Qa4 CC hl):P:=h k
theorem QEI {P Q:Prop} (k:Q) (h:Q->P:=by (with_reducible apply vlk (α:=List SV));first|exact qW|exact fD _ (by first|rfl|assumption)):P:=h k
theorem QGA {P Q:Prop} (k:Q) (h:Q->P:=by (with_reducible apply vlk (α:=Nat));first|(with_reducible exact rix ma)|(with_reducible exact rix mb)|(with_reducible exact rix mc)):P:=h k
theorem QCX {P Q:Prop} (k:Q) (h:Q->P:=by (with_reducible apply gek (α:=SV));first|exact rA|exact rB|exact gp):P:=h k
theorem QHg {P Q:Prop} (k:Q) (h:Q->P:=by with_reducible exact vlk e1):P:=h k
theorem Qzp {P Q:Prop} (k:Q) (h:Q->P:=by with_reducible first|exact vlk qm|exact vlk q4):P:=h k
theorem QEJ {P Q:Prop} (k:Q) (h:Q->P:=by apply sdk;first|omega|(refine ⟨rfl,rfl,rfl,?_⟩;show _<=XV.length;simp;omega)):P:=h k
theorem QGB {P Q:Prop} (k:Q) (h:Q->P:=by (with_reducible apply gek (α:=SV));with_reducible first|exact ra|exact rb|exact rc|exact wa|exact wb|exact wc):P:=h k
theorem QAj {P Q:Prop} (k:Q) (h:Q->P:=by (with_reducible apply gek (α:=SV));exact gpCC):P:=h k
theorem Qzq {P Q:Prop} (k:Q) (h:Q->P:=by (with_reducible apply vlk (α:=Nat));exact WF):P:=h k
theorem Qzr {P Q:Prop} (k:Q) (h:Q->P:=by (with_reducible apply gek (α:=SV));exact HK):P:=h k
theorem QHh {P Q:Prop} (k:Q) (h:Q->P:=by with_reducible first|exact vlk q1|exact vlk wS|exact vlk HI|exact vlk JF|exact vlk h8|exact vlk wi4|exact vlk e1|exact vlk e2|exact vlk GI):P:=h k
theorem QEK {P Q:Prop} (k:Q) (h:Q->P:=by with_reducible first|exact vlk qm|exact vlk q4|exact vlk q4m|exact vlk qT):P:=h k
theorem QCY {P Q:Prop} (k:Q) (h:Q->P:=by (with_reducible apply vlk (α:=List SV));with_reducible exact jC):P:=h k
theorem QCZ {P Q:Prop} (k:Q) (h:Q->P:=by (with_reducible apply vlk (α:=List SV));exact jC):P:=h k
theorem QC0 {P Q:Prop} (k:Q) (h:Q->P:=by (with_reducible apply vlk (α:=Bool));with_reducible exact qE):P:=h k
theorem QEL {P Q:Prop} (k:Q) (h:Q->P:=by apply sgk;first|exact Qa4 CC gS|exact Qa4 C3 gC|exact Qa4 EE el):P:=h k
theorem QEM {P Q:Prop} (k:Q) (h:Q->P:=by (with_reducible apply gek (α:=SV));first|exact rA|exact rB|exact gpCC):P:=h k
theorem QHi {P Q:Prop} (k:Q) (h:Q->P:=by (with_reducible apply vlk (α:=Int));first|exact QEZ _ fM|exact QFZ _ _|exact QF1 _ _|exact QFV _ _|exact QbU _ ha|exact QbU _ fM):P:=h k
theorem QII {P Q:Prop} (k:Q) (h:Q->P:=by apply sdk;first|exact ⟨gC,gR,rfl,(by show 0+C3.length<=25;omega)⟩|exact ⟨gC,gR,rfl,(by show 0+C3.length<=CC.length;omega)⟩):P:=h k
theorem QHj {P Q:Prop} (k:Q) (h:Q->P:=by apply sdk;refine ⟨rfl,rfl,?_,?_,?_⟩;(focus (show RR.length=R.length*6;omega));(focus (show (R.length+1)*48<=_;omega));(focus omega)):P:=h k
theorem QHk {P Q:Prop} (k:Q) (h:Q->P:=by apply sdk;refine ⟨rfl,rfl,?_,?_,?_⟩;(focus (show RR.length=R.length*4;omega));(focus (show (R.length+1)*12<=_;omega));(focus omega)):P:=h k
theorem QAk {P Q:Prop} (k:Q) (h:Q->P:=by (with_reducible apply gek (α:=SV));exact hg):P:=h k
theorem QEN {P Q:Prop} (k:Q) (h:Q->P:=by apply sdk;exact ⟨rfl,rfl,uK,bnd (by omega) (by decide),by omega⟩):P:=h k
theorem QGC {P Q:Prop} (k:Q) (h:Q->P:=by (with_reducible apply gek (α:=SV));first|exact rA|exact rB|exact rC|exact gp|exact gp2):P:=h k
theorem QHl {P Q:Prop} (k:Q) (h:Q->P:=by (with_reducible apply vlk (α:=List SV));first|exact qW|exact fD _ (by first|rfl|assumption)|exact wJ _ (by first|rfl|assumption)):P:=h k
theorem QHm {P Q:Prop} (k:Q) (h:Q->P:=by apply sdk;first|exact ⟨gC,gR,rfl,(by show 0+C3.length<=25;omega)⟩|exact ⟨el,ek,rfl,(by show 0+EE.length<=4;omega)⟩):P:=h k
theorem QEO {P Q:Prop} (k:Q) (h:Q->P:=by with_reducible first|exact vlk qm|exact vlk q4|exact vlk qv):P:=h k
theorem QHn {P Q:Prop} (k:Q) (h:Q->P:=by apply sdk;first|omega|(refine ⟨rfl,rfl,rfl,?_⟩;first|(show _<=X0.length;simp;omega)|(show _<=X1.length;simp;omega))):P:=h k
theorem QAl {P Q:Prop} (k:Q) (h:Q->P:=by with_reducible exact vlk b1):P:=h k
theorem QC1 {P Q:Prop} (k:Q) (h:Q->P:=by (with_reducible apply gek (α:=UInt8));exact hg):P:=h k
theorem QGD {P Q:Prop} (k:Q) (h:Q->P:=by (with_reducible apply gek (α:=UInt8));exact Qe8 (f:=ln8) (by kernel_rfl) i kk):P:=h k
theorem QEP {P Q:Prop} (k:Q) (h:Q->P:=by (with_reducible apply vlk (α:=Nat));exact Nat.zero_add N):P:=h k
theorem QGE {P Q:Prop} (k:Q) (h:Q->P:=by (with_reducible apply vlk (α:=Bool));first|exact sEq _ _|exact sNe _ _):P:=h k
theorem QEQ {P Q:Prop} (k:Q) (h:Q->P:=by (with_reducible apply gek (α:=SV));first|exact vN):P:=h k
theorem QER {P Q:Prop} (k:Q) (h:Q->P:=by (with_reducible apply vlk (α:=List SV));exact gY):P:=h k
theorem QHo {P Q:Prop} (k:Q) (h:Q->P:=by (with_reducible apply vlk (α:=List SV));first|with_reducible exact a1|with_reducible exact a2|exact a2):P:=h k
theorem QHp {P Q:Prop} (k:Q) (h:Q->P:=by with_reducible first|exact vlk qm|exact vlk qv):P:=h k
theorem QES {P Q:Prop} (k:Q) (h:Q->P:=by with_reducible first|exact vlk q1|exact vlk q2):P:=h k
theorem QET {P Q:Prop} (k:Q) (h:Q->P:=by with_reducible first|exact vlk q2|exact vlk q5):P:=h k
theorem QGF {P Q:Prop} (k:Q) (h:Q->P:=by with_reducible first|exact vlk q1|exact vlk q2|exact vlk q3):P:=h k
theorem QGG {P Q:Prop} (k:Q) (h:Q->P:=by (with_reducible apply gek (α:=SV));first|exact vN|exact JX):P:=h k
theorem Qzs {P Q:Prop} (k:Q) (h:Q->P:=by with_reducible exact vlk q1):P:=h k
theorem QGH {P Q:Prop} (k:Q) (h:Q->P:=by (with_reducible apply vlk (α:=Nat));with_reducible exact rix ma):P:=h k
theorem QHq {P Q:Prop} (k:Q) (h:Q->P:=by (with_reducible apply gek (α:=SV));first|exact rA|exact rB|exact rC|exact gpCC|exact gpC3):P:=h k
theorem QEU {P Q:Prop} (k:Q) (h:Q->P:=by (with_reducible apply vlk (α:=Nat));exact x1):P:=h k
theorem QAm {P Q:Prop} (k:Q) (h:Q->P:=by apply sgk;exact Qa4 C YX):P:=h k
theorem QHr {P Q:Prop} (k:Q) (h:Q->P:=by (with_reducible apply gek (α:=SV));exact rB):P:=h k
theorem QHs {P Q:Prop} (k:Q) (h:Q->P:=by apply sdk;refine ⟨rfl,rfl,rfl,?_,?_⟩<;>first|omega|(show (0+N)*48<=_;omega)):P:=h k
theorem QHt {P Q:Prop} (k:Q) (h:Q->P:=by (with_reducible apply vlk (α:=List SV));(with_reducible refine GH _ ?_);(focus exact rfl)):P:=h k
theorem QHu {P Q:Prop} (k:Q) (h:Q->P:=by apply sdk;first|exact wL|exact ⟨hl,wL,rfl,by show 0+KN.length<=32;omega⟩):P:=h k
theorem QHv {P Q:Prop} (k:Q) (h:Q->P:=by with_reducible first|exact vlk q1|exact vlk wS|exact vlk HI|exact vlk wi4):P:=h k
theorem QHw {P Q:Prop} (k:Q) (h:Q->P:=by with_reducible first|exact vlk q2|exact vlk q3|exact vlk q4|exact vlk q5):P:=h k
theorem QHx {P Q:Prop} (k:Q) (h:Q->P:=by with_reducible first|exact vlk e0|exact vlk e1|exact vlk e2|exact vlk e3):P:=h k
theorem QHy {P Q:Prop} (k:Q) (h:Q->P:=by with_reducible first|exact vlk (QE2 a)|exact vlk (QHL a)|exact vlk (QHM a)):P:=h k
theorem QGI {P Q:Prop} (k:Q) (h:Q->P:=by (with_reducible apply gek (α:=List Int));exact rfl):P:=h k
theorem QGJ {P Q:Prop} (k:Q) (h:Q->P:=by (with_reducible apply gek (α:=List Int));exact ht):P:=h k
theorem QHz {P Q:Prop} (k:Q) (h:Q->P:=by (with_reducible apply vlk (α:=Nat));with_reducible first|exact x1|exact x2):P:=h k
theorem QHA {P Q:Prop} (k:Q) (h:Q->P:=by (with_reducible apply vlk (α:=Nat));with_reducible first|exact e3|exact e4):P:=h k
theorem QGK {P Q:Prop} (k:Q) (h:Q->P:=by with_reducible first|exact vlk a2|exact vlk an):P:=h k
theorem QGL {P Q:Prop} (k:Q) (h:Q->P:=by with_reducible first|exact vlk s1|exact vlk s2):P:=h k
theorem QGM {P Q:Prop} (k:Q) (h:Q->P:=by with_reducible first|exact vlk m0|exact vlk b4):P:=h k
theorem QHB {P Q:Prop} (k:Q) (h:Q->P:=by (with_reducible apply gek (α:=SV));first|exact vN|exact JX|exact FO):P:=h k
theorem QHC {P Q:Prop} (k:Q) (h:Q->P:=by (with_reducible apply vlk (α:=List SV));first|exact qW|exact yS _ rfl):P:=h k
theorem QbF {P:Prop} (h:P:=by rw [Qb3 (by omega) (by omega)];omega):P:=h
theorem Qhb {P:Prop} (h:P:=by unfold exX;rw [zN (by omega),zN (by omega),zN (by omega),zN (by omega),zN (by omega)]):P:=h
theorem QiB {P:Prop} (h:P:=by unfold exP;rw [zN (by omega),zN (by omega),zN (by omega),zN (by omega),zN (by omega)]):P:=h
theorem Qkc {P:Prop} (h:P:=by unfold exE;rw [zN (by omega),zN (by omega),zN (by omega),zN (by omega),zN (by omega)]):P:=h
theorem Qf5 {P:Prop} (h:P:=by unfold exC;rw [zN (by omega),zN (by omega),zN (by omega)]):P:=h
theorem Qn6 {P:Prop} (h:P:=by first|exact QcH (Qct (QaJ rfl))|exact QcH (Qct (QrL rfl))|exact QcH (Qct (Qcy rfl))):P:=h
theorem QDL {P:Prop} (h:P:=by (try (conv=>whnf));first|(apply Fin.mv (m:= [(0,some 0),(1,some 1),(2,some 2),(3,some 3),(4,some 4),(5,some 1),(6,some 2),(7,some 3),(8,some 4)]);(focus exact rfl);(all_goals ((try (show QcI _ _ _ [] _));first|exact aFi|exact rfl)))):P:=h
theorem QDv {P:Prop} (h:P:=by (try (conv=>whnf));first|(exact Qb5)|(exfalso;simp only [zde,decide_eq_false_iff_not,beq_iff_eq,beq_eq_false_iff_ne,ne_eq] at *;omega)):P:=h
theorem Qeg {P:Prop} (h:P:=by (try (conv=>whnf));first|(exact Qb5)):P:=h
theorem Qzz {P:Prop} (h:P:=by (try (conv=>whnf));first|(apply Fin.mv (m:= [(0,some 0),(1,some 1),(2,some 2),(3,some 3),(4,some 4),(5,some 1),(6,some 2),(7,some 3),(8,some 4)]);(focus exact rfl);(all_goals ((try (show QcI _ _ _ [] _));first|exact aFi|exact rfl)))|(exfalso;simp at hb;omega)):P:=h
theorem QzA {P:Prop} (h:P:=by (try (conv=>whnf));first|(exfalso;simp at hb;omega)|(apply Fin.mv (m:= [(0,some 0),(1,some 1),(2,some 2),(3,some 3),(4,some 4),(5,some 1),(6,some 2),(7,some 3),(8,some 4)]);(focus exact rfl);(all_goals ((try (show QcI _ _ _ [] _));first|exact aFi|exact rfl)))):P:=h
theorem QzB {P:Prop} (h:P:=by (try (conv=>whnf));first|(apply Fin.mv (m:= [(0,some 0),(1,some 1),(2,some 2),(3,some 3),(4,some 4),(5,some 132160),(6,some 132161),(7,some 132162),(8,some 132163)]);(focus exact rfl);(all_goals ((try (show QcI _ _ _ [] _));first|exact aFi|exact rfl)))):P:=h
theorem QuD {P:Prop} (h:P:=by (try (conv=>whnf));first|(exact QdQ)|(exfalso;simp only [zde,decide_eq_false_iff_not,beq_iff_eq,beq_eq_false_iff_ne,ne_eq] at *;omega)):P:=h
theorem QfC {P:Prop} (h:P:=by rw [Int.tdiv_eq_ediv_of_nonneg (by omega)];rfl):P:=h
theorem QGO {P:Prop} (h:P:=by (try (conv=>whnf));first|(exfalso;omega)|(exfalso;simp at hb;omega)|(exact zf_)):P:=h
theorem Qcv {P:Prop} (h:P:=by (try (conv=>whnf));first|(exact QbL)):P:=h
theorem QDw {P:Prop} (h:P:=by (try (conv=>whnf));first|(apply Fin.mv (m:= [(0,some 0),(1,some 1),(2,some 2),(3,some 3),(4,some 4),(5,some 327808),(6,some 327809),(7,some 327810),(8,some 327811)]);(focus exact rfl);(all_goals ((try (show QcI _ _ _ [] _));first|exact aFi|exact rfl)))):P:=h
theorem QGP {P:Prop} (h:P:=by (try (conv=>whnf));first|(apply Fin.mv (m:= [(0,some 0),(1,some 1),(2,some 2),(3,some 3),(4,some 4),(5,some 5),(6,some 6),(7,some 7),(8,some 8),(9,some 9)]);(focus exact rfl);(all_goals ((try (show QcI _ _ _ [] _));first|exact aFi|exact rfl)))):P:=h
theorem Qfh {P:Prop} (h:P:=by rw [QeO (by omega) (by omega)];omega):P:=h
theorem QGQ {P:Prop} (h:P:=by (try (conv=>whnf));first|(apply Fin.mv (m:= [(0,some 0),(1,some 1),(2,some 2),(3,some 3),(4,some 4),(5,some 5),(6,some 6),(7,some 7),(8,some 8)]);(focus exact rfl);(all_goals ((try (show QcI _ _ _ [] _));first|exact aFi|exact rfl)))):P:=h
theorem Qeh {P:Prop} (h:P:=by unfold mpg;split<;>omega):P:=h
theorem Qg8 {P:Prop} (h:P:=by rw [QCR (by omega) (by omega)];omega):P:=h
theorem QGR {P:Prop} (h:P:=by (try (conv=>whnf));first|(apply Fin.mk (m:= [(0,some 0),(1,some 1),(2,some 2),(3,some 5),(4,some 6)]);(focus exact rfl);(all_goals ((try (show HlS _ _ [] _));first|(exact aFi)|exact rfl)))):P:=h
theorem Qj0 {P:Prop} (h:P:=by rw [Int.tmod_eq_emod_of_nonneg (by omega)];rfl):P:=h
theorem QfD {P:Prop} (h:P:=by rw [Qb3 (by omega) (by omega)]):P:=h
theorem Qg9 {P:Prop} (h:P:=by (try (conv=>whnf));first|exact QbP rfl gK rfl rfl):P:=h
theorem QGS {P:Prop} (h:P:=by (try (conv=>whnf));first|(refine QcD ?_ ?_;(focus (exact zf_));rw [<- hB];first|(rw [zbi];simp;first|done|fail)|(rw [zbi];simp;omega)|(rw [zbi];simp;grind))):P:=h
theorem QuE {P:Prop} (h:P:=by unfold exX;rw [zN (by omega),zN (by omega),zN (by omega),zP (by omega)]):P:=h
theorem QnS {P:Prop} (h:P:=by rw [Qmu (by omega),QeO (by omega) (by omega)];omega):P:=h
theorem QDx {P:Prop} (h:P:=by (try (conv=>whnf));first|(exfalso;omega)|(exfalso;simp at hb;first|done|fail)|(refine ⟨mm-1,Qz7 S (k+1) N1,by omega,?_,k+1,by omega,by rw [hN1];rfl⟩;unfold Qz7;(exact zwL []))):P:=h
theorem QzC {P:Prop} (h:P:=by first|exact QcH (Qct (QaJ rfl))|exact QcH (Qct (QeL rfl))|exact QcH (Qct (Qcy rfl))):P:=h
theorem QDy {P:Prop} (h:P:=by (try (conv=>whnf));first|(exfalso;omega)|(exfalso;simp at hb;first|done|fail)|(refine ⟨mm-1,QAg S (k+1),by omega,?_,k+1,by omega,rfl⟩;unfold QAg;(exact zwL [(1,some 1)]))):P:=h
theorem QDz {P:Prop} (h:P:=by (try (conv=>whnf));first|(apply Fin.mk (m:= [(0,some 0),(1,some 3),(2,some 4)]);(focus exact rfl);(all_goals ((try (show HlS _ _ [] _));first|(exact aFi)|exact rfl)))):P:=h
theorem Qha {P:Prop} (h:P:=by (try (conv=>whnf));first|(exact QdQ)):P:=h
theorem QDA {P:Prop} (h:P:=by (try (conv=>whnf));first|(refine hB _ ?_;(exact zwV [(0,some 0),(1,some 1),(2,some 2),(3,some 3),(4,some 4),(5,some 5),(6,some 6),(7,some 7),(8,some 8)]))):P:=h
theorem QnT {P:Prop} (h:P:=by unfold szO;split;exact .inr rfl;exact .inl rfl):P:=h
theorem Qj1 {P:Prop} (h:P:=by (try (conv=>whnf));first|(exact zf_)):P:=h
theorem QGT {P:Prop} (h:P:=by (try (conv=>whnf));first|(exact QbL)|(exfalso;simp only [zde,decide_eq_false_iff_not,beq_iff_eq,beq_eq_false_iff_ne,ne_eq] at *;omega)):P:=h
theorem QnU {P:Prop} (h:P:=by show 0+((i:Nat):Int).toNat * 4=_;omega):P:=h
theorem QuF {P:Prop} (h:P:=by rw [zbi];simp only [zde,beq_iff_eq];omega):P:=h
theorem Qj2 {P:Prop} (h:P:=by rw [List.length_set];exact hE.M.x):P:=h
theorem QzD {P:Prop} (h:P:=by first|exact QcH (Qct (QaJ rfl))|exact QcH (Qct (Qcy rfl))):P:=h
theorem Qsi {P:Prop} (h:P:=by rw [<- YA];exact zdf (by omega)):P:=h
theorem QDB {P:Prop} (h:P:=by first|exact QcH (Qct (QaJ rfl))|exact QcH (Qct (Qcy rfl))|exact QcH (Qct (Qy5 rfl))):P:=h
theorem Qj3 {P:Prop} (h:P:=by unfold QaC;rw [zN vH]):P:=h
theorem Qj4 {P:Prop} (h:P:=by unfold QaC;rw [zP vH]):P:=h
theorem QDC {P:Prop} (h:P:=by unfold exX;rw [zN (by omega),zN (by omega),zN (by omega),zN (by omega),zP (by omega)]):P:=h
theorem QDD {P:Prop} (h:P:=by unfold exP;rw [zN (by omega),zN (by omega),zN (by omega),zN (by omega),zP (by omega)]):P:=h
theorem QDE {P:Prop} (h:P:=by unfold exE;rw [zN (by omega),zN (by omega),zN (by omega),zN (by omega),zP (by omega)]):P:=h
theorem Qlw {P:Prop} (h:P:=by rw [QCR (by omega) (by omega)]):P:=h
theorem QDF {P:Prop} (h:P:=by (try (conv=>whnf));first|(refine hN _ ?_;(exact zwL [(0,some 0),(1,some 1),(2,some 2),(3,some 3),(4,some 131200)]))):P:=h
theorem QDG {P:Prop} (h:P:=by unfold rsK;rw [eO,zN (c:=QdC ac=false\/szB sz=false) (by rw [k1,k2];simp),zP gZ]):P:=h
theorem QGU {P:Prop} (h:P:=by (try (conv=>whnf));first|(refine QcD ?_ ?_;(focus (exact zf_));unfold QdV;rw [zbi];simp;try omega)):P:=h
theorem QuG {P:Prop} (h:P:=by unfold Qa6;rw [QeO (by omega) (by omega)];omega):P:=h
theorem QuH {P:Prop} (h:P:=by (try (conv=>whnf));first|(exact Qb5)|(exfalso;simp at hb;omega)):P:=h
theorem QDH {P:Prop} (h:P:=by (try (conv=>whnf));first|(exfalso;simp at hb;omega)|(exact Qb5)):P:=h
theorem QuI {P:Prop} (h:P:=by simp only [Int.toNat_natCast,IntKind.bits];omega):P:=h
theorem QuJ {P:Prop} (h:P:=by rw [Int.tmod_eq_emod_of_nonneg (by omega)];omega):P:=h
theorem QuK {P:Prop} (h:P:=by show 0+((j:Nat):Int).toNat * 6=_;omega):P:=h
theorem QGV {P:Prop} (h:P:=by (try (conv=>whnf));first|(exfalso;omega)|(exfalso;simp at hb;omega)|(rw [e];(exact zf_))|(exact zf_)):P:=h
theorem QzE {P:Prop} (h:P:=by show 0+(((Qa6 r va:Nat):Int) / 4).toNat * 1=_;omega):P:=h
theorem QDI {P:Prop} (h:P:=by unfold exP;rw [zN (by omega),zN (by omega),zN (by omega),zP (by omega)]):P:=h
theorem QDJ {P:Prop} (h:P:=by unfold exE;rw [zN (by omega),zN (by omega),zN (by omega),zP (by omega)]):P:=h
theorem QDK {P:Prop} (h:P:=by rw [show (2:Int)^min (Int.toNat 16) IntKind.u32.bits=65536 from rfl];omega):P:=h
theorem QzF {P:Prop} (h:P:=by rw [<- hN];exact (zgs.1 he).1):P:=h
theorem QuL {P:Prop} (h:P:=by unfold exP;rw [zP ho.1,ho.2];rfl):P:=h
theorem QuM {P:Prop} (h:P:=by rw [k.1,Qb3 (by omega) (by omega)]):P:=h
theorem QzG {P:Prop} (h:P:=by show 0+((i:Nat):Int).toNat * 6=_;omega):P:=h
theorem QzH {P:Prop} (h:P:=by show 0+((i:Nat):Int).toNat * 1=_;omega):P:=h
theorem QzI {P:Prop} (h:P:=by show 0+((i:Nat):Int).toNat * 3=_;omega):P:=h
theorem QzJ {P:Prop} (h:P:=by show 0+((j:Nat):Int).toNat * 1=_;omega):P:=h
theorem QzK {P:Prop} (h:P:=by rw [dv2];exact QeO (by omega) (by omega)):P:=h
theorem QfE {P:Prop} (h:P:=by (repeat' ((conv=>whnf);first|exact zi0|refine zj0 fun hb=>?_|refine QHg ?_|(refine Qae (f:=59) cp [⟨0,0⟩] [(0,⟨false,1,XX⟩)] rfl ⟨rfl,trivial⟩ ⟨rfl,Qar gK,trivial⟩ ⟨rfl,Qbm⟩ ?_)|refine zs0 ?_|refine zbb ?_ ?_));all_goals exact Qb5):P:=h
theorem Qc6 {P:Prop} (h:P:=by (repeat' ((conv=>whnf);first|exact zi2|refine zj0 fun hb=>?_|refine zse ?_|refine zbb ?_ ?_));all_goals exact Qeg):P:=h
theorem QeP {P:Prop} (h:P:=by (repeat' ((conv=>whnf);first|exact zi2|refine zj0 fun hb=>?_|refine zse ?_|refine zbb ?_ ?_));all_goals exact zF_):P:=h
theorem QDM {P:Prop} (h:P:=by (repeat' ((conv=>whnf);first|exact zi2|refine zj0 fun hb=>?_|(refine QaD cb ?_)|(refine zpu cm ?_)|(refine zpu cl ?_)|(refine Qae cw [⟨131200,0⟩,⟨131136,0⟩,⟨131137,0⟩] [(131200,⟨true,1,[.sl 131136 0 N,.sl 131137 0 N]⟩),(131136,⟨true,1,CK⟩),(131137,⟨true,3,CV⟩)] rfl ⟨rfl,rfl,rfl,trivial⟩ ⟨rfl,Qmi rfl,rfl,Qar (by assumption),rfl,Qar (by assumption),trivial⟩ ⟨rfl,Qbm⟩ ?_)|(apply Sk.mk; . exact sk)|(apply Sd.mk; . first|omega)|refine QCZ ?_|refine zse ?_|refine zbb ?_ ?_));all_goals exact QbL):P:=h
theorem Qj5 {P:Prop} (h:P:=by (repeat' ((conv=>whnf);first|exact zi2|refine zj0 fun hb=>?_|refine zse ?_|refine zbb ?_ ?_));all_goals exact QGO):P:=h
theorem Qj6 {P:Prop} (h:P:=by (repeat' ((conv=>whnf);first|exact zi2|refine zj0 fun hb=>?_|refine zse ?_|refine zbb ?_ ?_));all_goals exact Qj1):P:=h
theorem QnV {P:Prop} (h:P:=by (repeat' ((conv=>whnf);first|exact zi2|refine zj0 fun hb=>?_|(refine QaD q1 ?_)|refine zse ?_|refine zbb ?_ ?_));all_goals exact Qeg):P:=h
theorem QzL {P:Prop} (h:P:=by (repeat' ((conv=>whnf);first|exact zi3|refine zj0 fun hb=>?_|refine zq0 ?_|refine zq3 ?_|refine Qsr ?_|(refine QaD hc ?_)|(refine QaD q0 ?_)|(refine QaD q1 ?_)|(refine QaD q2 ?_)|refine zse ?_|refine zbb ?_ ?_));all_goals exact Qcv):P:=h
theorem QDN {P:Prop} (h:P:=by (repeat' ((conv=>whnf);first|exact zi2|refine zj0 fun hb=>?_|refine QvS ?_|refine zq4 ?_|refine zq1 ?_|refine QAj ?_|(refine Qg7 hr ?_)|(refine QaD qF ?_)|(refine zpu jP ?_)|(refine zpu gI ?_)|(refine Qg7 jT ?_)|refine zse ?_|refine zbb ?_ ?_));all_goals exact Qfe):P:=h
theorem QzM {P:Prop} (h:P:=by (repeat' ((conv=>whnf);first|exact zi3|refine zj0 fun hb=>?_|refine QAl ?_|(refine QaD q0 ?_)|(refine QaD l2 ?_)|(refine zpu d2 ?_)|refine zse ?_|refine zbb ?_ ?_));all_goals exact Qfe):P:=h
theorem QzN {P:Prop} (h:P:=by (repeat' ((conv=>whnf);first|exact zi3|refine zj0 fun hb=>?_|(refine QaD q0 ?_)|(refine Qg7 q1 ?_)|refine zq3 ?_|refine Qsr ?_|refine zse ?_|refine zbb ?_ ?_));all_goals exact Qha):P:=h
theorem Qsj {P:Prop} (h:P:=by (repeat' ((conv=>whnf);first|exact zi2|refine zj0 fun hb=>?_|refine zse ?_|refine zbb ?_ ?_));all_goals exact QDv):P:=h
theorem QuN {P:Prop} (h:P:=by (repeat' ((conv=>whnf);first|exact zi2|refine zj0 fun hb=>?_|(refine zpu hg ?_)|refine zse ?_|refine zbb ?_ ?_));all_goals exact zF_):P:=h
theorem QDO {P:Prop} (h:P:=by (repeat' ((conv=>whnf);first|exact zi2|refine zj0 fun hb=>?_|refine QHp ?_|refine QHd ?_|refine zq4 ?_|refine zq1 ?_|refine QHr ?_|(refine QaD hr ?_)|(refine zpu VH ?_)|(refine zpu fK ?_)|refine zse ?_|refine zbb ?_ ?_));all_goals exact Qff):P:=h
theorem QDP {P:Prop} (h:P:=by (repeat' ((conv=>whnf);first|exact zi2|refine zj0 fun hb=>?_|refine QII ?_|refine zq4 ?_|refine zq1 ?_|(refine QaD hf ?_)|(refine zpu jP ?_)|(refine zpu gI ?_)|(refine QaD jT ?_)|refine zse ?_|refine zbb ?_ ?_));all_goals exact Qff):P:=h
theorem QDQ {P:Prop} (h:P:=by (repeat' ((conv=>whnf);first|exact zi2|refine zj0 fun hb=>?_|refine QHp ?_|refine QHd ?_|refine zq4 ?_|refine zq1 ?_|refine QHr ?_|(refine Qg7 hr ?_)|(refine zpu fK ?_)|refine zse ?_|refine zbb ?_ ?_));all_goals exact Qfe):P:=h
theorem QDR {P:Prop} (h:P:=by (repeat' ((conv=>whnf);first|exact zi2|refine zj0 fun hb=>?_|(with_reducible first|refine zv cv ?_|refine zv cf ?_)|(refine QaD q1 ?_)|(refine QaD q2 ?_)|(refine zpu q3 ?_)|refine zse ?_|refine zbb ?_ ?_));all_goals exact QGT):P:=h
theorem QzO {P:Prop} (h:P:=by (repeat' ((conv=>whnf);first|exact zi2|refine zj0 fun hb=>?_|refine zq0 ?_|(refine zpu q3 ?_)|refine zse ?_|refine zbb ?_ ?_));all_goals exact Qeg):P:=h
theorem QDS {P:Prop} (h:P:=by (repeat' ((conv=>whnf);first|exact zi3|refine zj0 fun hb=>?_|refine QAl ?_|(refine QaD q0 ?_)|(refine QaD l2 ?_)|(refine zpu z2 ?_)|refine zse ?_|refine zbb ?_ ?_));all_goals exact Qfe):P:=h
theorem QDT {P:Prop} (h:P:=by (repeat' ((conv=>whnf);first|exact zi2|refine zj0 fun hb=>?_|(with_reducible refine zv cf ?_)|(refine QaD q1 ?_)|(refine QaD q2 ?_)|refine zse ?_|refine zbb ?_ ?_));all_goals exact Qcv):P:=h
theorem QzP {P:Prop} (h:P:=by (repeat' ((conv=>whnf);first|exact zi2|refine zj0 fun hb=>?_|refine zq0 ?_|refine zse ?_|refine zbb ?_ ?_));all_goals exact QDH):P:=h
theorem QDU {P:Prop} (h:P:=by (repeat' ((conv=>whnf);first|exact zi2|refine zj0 fun hb=>?_|((with_reducible apply Vl.mk (α:=Bool)); . with_reducible exact e)|refine zse ?_|refine zbb ?_ ?_));all_goals exact QGV):P:=h
theorem QDV {P:Prop} (h:P:=by (repeat' ((conv=>whnf);first|exact zi2|refine zj0 fun hb=>?_|(with_reducible refine zv b2 ?_)|(refine QaD he ?_)|refine zse ?_|refine zbb ?_ ?_));all_goals exact Qfe):P:=h
theorem QzQ {P:Prop} (h:P:=by (repeat' ((conv=>whnf);first|exact zi2|refine zj0 fun hb=>?_|refine zse ?_|refine zbb ?_ ?_));all_goals exact Qha):P:=h
theorem QzR {P:Prop} (h:P:=by (repeat' ((conv=>whnf);first|exact zi2|refine zj0 fun hb=>?_|refine zse ?_|refine zbb ?_ ?_));all_goals exact QdQ):P:=h
theorem QDW {P:Prop} (h:P:=by (repeat' ((conv=>whnf);first|exact zi2|refine zj0 fun hb=>?_|(with_reducible refine zv qs ?_)|refine zse ?_|refine zbb ?_ ?_));all_goals exact zF_):P:=h
theorem QDX {P:Prop} (h:P:=by (repeat' ((conv=>whnf);first|exact zi3|refine zj0 fun hb=>?_|(refine QaD q0 ?_)|refine zse ?_|refine zbb ?_ ?_));all_goals exact Qfe):P:=h
theorem QDY {P:Prop} (h:P:=by (repeat' ((conv=>whnf);first|exact zi2|refine zj0 fun hb=>?_|(refine zpu qP ?_)|refine zse ?_|refine zbb ?_ ?_));all_goals exact Qeg):P:=h
theorem QDZ {P:Prop} (h:P:=by (repeat' ((conv=>whnf);first|exact zi3|refine zj0 fun hb=>?_|(refine zpu q3 ?_)|refine zse ?_|refine zbb ?_ ?_));all_goals exact Qha):P:=h
theorem QD0 {P:Prop} (h:P:=by (repeat' ((conv=>whnf);first|exact zi2|refine zj0 fun hb=>?_|refine zq0 ?_|refine zse ?_|refine zbb ?_ ?_));all_goals exact Qeg):P:=h
theorem QD1 {P:Prop} (h:P:=by (repeat' ((conv=>whnf);first|exact zi2|refine zj0 fun hb=>?_|refine zse ?_|refine zbb ?_ ?_));all_goals exact QGU):P:=h
theorem QD2 {P:Prop} (h:P:=by (repeat' ((conv=>whnf);first|exact zi2|refine zj0 fun hb=>?_|refine zse ?_|refine zbb ?_ ?_));all_goals exact QGS):P:=h
theorem QD3 {P:Prop} (h:P:=by (repeat' ((conv=>whnf);first|exact zi2|refine zj0 fun hb=>?_|refine zse ?_|refine zbb ?_ ?_));all_goals exact zf_):P:=h
theorem QD4 {P:Prop} (h:P:=by (repeat' ((conv=>whnf);first|exact zi0|refine zj0 fun hb=>?_|refine zs0 ?_|refine zbb ?_ ?_));all_goals exact QdQ):P:=h
theorem QD5 {P:Prop} (h:P:=by (repeat' ((conv=>whnf);first|exact zi0|refine zj0 fun hb=>?_|refine zs0 ?_|refine zbb ?_ ?_));all_goals exact Qb5):P:=h
theorem QD6 {P:Prop} (h:P:=by (repeat' ((conv=>whnf);first|exact zi0|refine zj0 fun hb=>?_|refine zs0 ?_|refine zbb ?_ ?_));all_goals exact QGR):P:=h
theorem QD7 {P:Prop} (h:P:=by (repeat' ((conv=>whnf);first|exact zi0|refine zj0 fun hb=>?_|refine zst ?_|refine zbb ?_ ?_));all_goals exact QdQ):P:=h
theorem QD8 {P:Prop} (h:P:=by (repeat' ((conv=>whnf);first|exact zi3|refine zj0 fun hb=>?_|refine zse ?_|refine zbb ?_ ?_));all_goals exact QGP):P:=h
theorem QD9 {P:Prop} (h:P:=by (repeat' ((conv=>whnf);first|exact zi3|refine zj0 fun hb=>?_|refine zse ?_|refine zbb ?_ ?_));all_goals exact QGQ):P:=h
theorem Qn5 {P:Prop} (h:P:=by
  obtain ⟨qD,qC,jN,qO⟩:=hm;have p1:IntKind.i64.wrap (m.n-1)=m.n-1:=Qb3 (by omega) (by omega);have p2:=Qau (m.n-1);have p3:=Qau (4*(w32 (m.n-1):Nat));have p4:=QbY E.M.pc m.n;have p5:=Qau ((lpc E.M.pc m.n:Nat)+4);have p6:=Qau ((lpc E.M.pc m.n:Nat)+(m.k:Nat));have FO:=Qbo E hE 1 2 3 4 m.a qD;have vN:=Qbo E hE 1 2 3 4 m.b qC;have ctk:=Qpa m.o (E.M.x.getD m.a 0) (E.M.x.getD m.b 0) (Qab hE.M.xr m.a) (Qab hE.M.xr m.b);rw [jJ] at ctk;clear jJ;have qB:QaC E.M.x 0 (0)=E.M.x:=by unfold QaC;rw [zP rfl]
  unfold fnE;rw [qB];clear qB;generalize w32 ((lpc E.M.pc m.n:Nat)+(m.k:Nat))=nxk,E.M.x.getD m.a 0=xa,E.M.x.getD m.b 0=xb at *;generalize lpc E.M.pc m.n=lp,w32 (4*(w32 (m.n-1):Nat))=p44 at *;generalize w32 (m.n-1)=p11,w32 ((lp:Int)+4)=nx4 at *;obtain ⟨_,ma,mb,mc,mk,_⟩:=m;dsimp only [Mi.C] at *;subst fH;have fJ:=Qaa E.M.m;have gW:=Qaf E.T;have fG:=Qad E.B;have qH:=(Qaz hE.o).2.1;obtain ⟨hM,hT,_,hB,_,ho,_,_⟩:=hE;obtain ⟨M,T,B,o,_,s⟩:=E;dsimp only [Eg.H,Eg.R,Eg.Rk,Eg.C,wrt] at *;obtain ⟨hx,hc,hY,gA,gI,gB,gH,gE,gD,gG⟩:=hM;obtain ⟨x,pc,_,m,_,_,_,_,d,n⟩:=M;dsimp only at *;obtain ⟨_,_,_,_,_,_,_,_,_,_,_,_,_,_,_,_,rfl⟩:=Qgt hx;obtain ⟨_,_,_,_,_,_,_,_,rfl⟩:=Qfo hc;cases d;cases n;dsimp only [Mc.C,Mc.D,Dk.C,Nk.C,Dk.ok,Nk.ok] at *
  try dsimp only [cR,Mc.C,Mc.D,Dk.C,Nk.C] at *
  try simp only [Qai,zca,zna,zds,zdz] at *
  generalize gP:wsv m=XX,hX3:bks B=BB,hX4:OLs o=OO,gJ:m.length=nn,gL:B.length=bn,hon:o.length=on,gT:tes T=TT,htn:T.length=tn at *;clear gP gT hX3 hX4 gJ gL hon htn hT hB ho hY gA gI gB gH gE gD gG;refine fnW Tryz.func77 ?_;(conv=>whnf);(repeat' ((first|exact zi2|refine zj0 fun hb=>?_|refine QCV ?_|refine QGA ?_|((with_reducible apply Ge.mk (α:=SV)); . first|exact FO|exact vN)|refine QAi ?_|(refine zpu ctk ?_)|refine zse ?_|refine zbb ?_ ?_)<;>conv=>whnf))
  all_goals first|(exfalso;simp at hb;omega)|(apply Fin.mv (m:= [(0,some 0),(1,some 1),(2,some 2),(3,some 3),(4,some 4),(5,some 1),(6,some 2),(7,some 3),(8,some 4)]);(focus exact rfl);(all_goals ((try (show QcI _ _ _ [] _));first|exact aFi|exact rfl)))):P:=h
theorem QC9 {P:Prop} (h:P:=by
  rw [eX,eP,eC,eE];have rA:=Qav x pc c A hx hA;have rB:=Qav x pc c B hx hB;have rC:=Qav x pc c C hx hC;have qm:IntKind.u32.wrap m=((w32 m:Nat):Int):=Qau m;have q4:IntKind.u32.wrap ((pc:Int)+4)=((w32 ((pc:Int)+4):Nat):Int):=Qau _;have q4m:IntKind.u32.wrap (4*((w32 m:Nat):Int))=((w32 (4*(w32 m:Nat)):Nat):Int):=Qau _;have xA:=Qab hY A;have xB:=Qab hY B;have lm:=QaE m;have gS:=Qao (x) (pc) (c) hx hc;have jG:=Qal (x) (pc) (c);have qL:=Qag (x) (pc) (c);have qR:=Qah gS;have gpCC:=QaA (x) (pc) (c) hx;obtain ⟨PP,qQ⟩:∃ PP,w32 ((pc:Int)+4)=PP:=⟨_,rfl⟩;rw [qQ];rw [qQ] at q4;have qW:=QaN x pc c PP hx;have gC:=Qao (x) (PP) (c) hx hc;have fO:=Qal (x) (PP) (c);have gR:=Qag (x) (PP) (c);have fD:=Qah gC;have gpC3:=QaA (x) (PP) (c) hx;generalize Qax (x) (PP) (c)=C3 at *;clear eX eP eC eE;generalize x.getD A 0=vA,x.getD B 0=vB,x.getD C 0=vC,Qax (x) (pc) (c)=CC,w32 (4*((w32 m:Nat):Int))=m4 at *;generalize w32 m=mm,w32 ((pc:Int)+4)=p4 at *;refine fnW Tryz.func92 ?_;(conv=>whnf);(repeat' ((first|exact zi2|refine zj0 fun hb=>?_|(with_reducible first|refine zv qm ?_|refine zv q4 ?_|refine zv q4m ?_)|refine zq8 ?_|((with_reducible apply Vl.mk (α:=List SV)); . first|exact qW|exact qR _ (by first|rfl|assumption)|exact fD _ (by first|rfl|assumption))|refine zq1 ?_|refine QHq ?_|refine zse ?_|refine zbb ?_ ?_)<;>conv=>whnf))
  all_goals exact zF_):P:=h
theorem QDh {P:Prop} (h:P:=by
  rw [eX,eP,eC,eE];have rA:=Qav x pc c A hx hA;have rB:=Qav x pc c B hx hB;have rC:=Qav x pc c C hx hC;have gp:=QaA x pc c hx;have qm:IntKind.u32.wrap m=((w32 m:Nat):Int):=Qau m;have q4:IntKind.u32.wrap ((pc:Int)+4)=((w32 ((pc:Int)+4):Nat):Int):=Qau _;have xA:=Qab hY A;have xB:=Qab hY B;have xC:=Qab hY C;have lm:=QaE m;have hl:=Qao x pc c hx hc;have hs:=Qal x pc c;have hk:=Qag x pc c;have wI:=Qah hl;obtain ⟨PP,qQ⟩:∃ PP,w32 ((pc:Int)+4)=PP:=⟨_,rfl⟩;rw [qQ];rw [qQ] at q4;have qW:=QaN x pc c PP hx;have jE:=Qao x PP c hx hc;have fG:=Qal x PP c;have wV:=Qag x PP c;have yS:=Qah jE;generalize Qax x PP c=C3 at *;clear eX eP eC eE hY gA hm;generalize x.getD A 0=vA,x.getD B 0=vB,x.getD C 0=vC at *;skip;generalize Qax x pc c=CC,w32 m=mm,w32 ((pc:Int)+4)=p4 at *;refine fnW Tryz.func189 ?_;(conv=>whnf);(repeat' ((first|exact zi2|refine zj0 fun hb=>?_|refine QGC ?_|refine Qzp ?_|((with_reducible apply Vl.mk (α:=List SV)); . first|exact qW|exact wI _ rfl|exact yS _ rfl)|refine Qzo ?_|(apply Sd.mk; . first|exact ⟨hl,hk,rfl,(by show 0+CC.length<=25;omega)⟩|exact ⟨jE,wV,rfl,(by show 0+C3.length<=25;omega)⟩|(refine ⟨rfl,rfl,rfl,?_⟩;show 16+1<=CC.length;omega)|(refine ⟨rfl,rfl,rfl,?_⟩;show 0+16+1<=CC.length;omega)|(show (0:Int)<=A/\(A:Int)<16;omega)|(show (0:Int)<=B/\(B:Int)<16;omega)|(show (0:Int)<=C/\(C:Int)<16;omega))|(refine And.intro rfl ?_)|refine zse ?_|refine zbb ?_ ?_)<;>conv=>whnf))
  all_goals exact zF_):P:=h
theorem QHD {P:Prop} (h:P:=by
  have gN:=QgM x pc c A V hx hc hA;have qW:=QaN (QaC x A V) pc c PP (by rw [Qay];exact hx);have qK:=Qao (QaC x A V) (pc) (c) (by rw [Qay];exact hx) hc;have uJ:=Qal (QaC x A V) (pc) (c);have jQ:=Qag (QaC x A V) (pc) (c);have wJ:=Qah qK;have gpC2:=QaA (QaC x A V) (pc) (c) (by rw [Qay];exact hx);have gC:=Qao (QaC x A V) (PP) (c) (by rw [Qay];exact hx) hc;have fO:=Qal (QaC x A V) (PP) (c);have gR:=Qag (QaC x A V) (PP) (c);have fD:=Qah gC;have gpC3:=QaA (QaC x A V) (PP) (c) (by rw [Qay];exact hx);generalize Qax (QaC x A V) (PP) (c)=C3,Qax (QaC x A V) (pc) (c)=C2 at *;clear eX eP eC;generalize x.getD A 0=vA,x.getD B 0=vB,x.getD C 0=vC,Qax (x) (pc) (c)=CC,w32 (4*((w32 m:Nat):Int))=m4 at *;generalize w32 m=mm,w32 ((pc:Int)+4)=p4 at *;refine fnW Tryz.func93 ?_;(conv=>whnf);(repeat' ((first|exact zi2|refine zj0 fun hb=>?_|refine QEK ?_|(apply Sd.mk; . first|exact ⟨gS,qL,rfl,(by show 0+CC.length<=25;omega)⟩|exact ⟨gC,gR,rfl,(by show 0+C3.length<=25;omega)⟩|exact ⟨qK,jQ,rfl,(by show 0+C2.length<=25;omega)⟩|exact ⟨gS,qL,rfl,(by show 0+CC.length<=C3.length;omega)⟩|exact ⟨gS,qL,rfl,(by show 0+CC.length<=C2.length;omega)⟩|exact ⟨gC,gR,rfl,(by show 0+C3.length<=CC.length;omega)⟩|exact ⟨gC,gR,rfl,(by show 0+C3.length<=C2.length;omega)⟩|exact ⟨qK,jQ,rfl,(by show 0+C2.length<=CC.length;omega)⟩|exact ⟨qK,jQ,rfl,(by show 0+C2.length<=C3.length;omega)⟩|(show (0:Int)<=A/\(A:Int)<16;omega)|(show (0:Int)<=B/\(B:Int)<16;omega)|(refine ⟨rfl,rfl,rfl,?_⟩;show 0+16+1<=CC.length;omega)|(refine ⟨rfl,rfl,rfl,?_⟩;show 0+16+1<=C3.length;omega)|(refine ⟨rfl,rfl,rfl,?_⟩;show 0+16+1<=C2.length;omega))|((with_reducible apply Vl.mk (α:=List SV)); . first|exact qW|exact qR _ (by first|rfl|assumption)|exact fD _ (by first|rfl|assumption)|exact wJ _ (by first|rfl|assumption))|(apply Sg.mk; . first|exact Qa4 CC gS|exact Qa4 C3 gC|exact Qa4 C2 qK)|((with_reducible apply Ge.mk (α:=SV)); . first|exact rA|exact rB|exact rC|exact gpCC|exact gpC3|exact gpC2)|(refine zpu gN ?_)|refine zse ?_|refine zbb ?_ ?_)<;>conv=>whnf))
  all_goals exact zF_):P:=h
theorem QDu {P:Prop} (h:P:=by
  refine fnW Tryz.func111 ?_;dsimp only [Mi.C];(conv=>whnf);(repeat' ((first|exact zi0|refine zj0 fun hb=>?_|(apply Sd.mk; . exact qA)|refine QGB ?_|(refine Qac (f:=174) (vK) rfl ?_)|(refine Qac (f:=175) (h3) rfl ?_)|(refine Qac (f:=176) (zW) rfl ?_)|refine zs0 ?_|refine zbb ?_ ?_)<;>conv=>whnf))
  all_goals
   first
    | exact Qam rfl rfl
  ):P:=h
theorem QHE {P:Prop} (h:P:=by
  generalize QbS o=bb at *;have gN:=Qhy x pc c A V hx hc hA;have jI:=Qao (QaC x A V) pc c (by rw [Qay];exact hx) hc;have gW:=Qal (QaC x A V) pc c;have qZ:=Qag (QaC x A V) pc c;have wF:QaB (Qax x pc c) 0 (Qax (QaC x A V) pc c)=Qax (QaC x A V) pc c:=Qcb (by omega);have qW:=QaN (QaC x A V) pc c PP (by rw [Qay];exact hx);have jE:=Qao (QaC x A V) PP c (by rw [Qay];exact hx) hc;have fG:=Qal (QaC x A V) PP c;have wV:=Qag (QaC x A V) PP c;have yS:=Qah jE;have gp2:=QaA (QaC x A V) pc c (by rw [Qay];exact hx);generalize Qax (QaC x A V) PP c=C3,Qax (QaC x A V) pc c=C2 at *;clear eX eP eC eE hY gA hm;generalize x.getD A 0=vA,x.getD B 0=vB,x.getD C 0=vC at *;skip;generalize Qax x pc c=CC,w32 m=mm,w32 ((pc:Int)+4)=p4 at *;refine fnW Tryz.func189 ?_;(conv=>whnf);(repeat' ((first|exact zi2|refine zj0 fun hb=>?_|refine QGC ?_|refine Qzp ?_|((with_reducible apply Vl.mk (α:=List SV)); . first|exact wF|exact qW|exact wI _ rfl|exact yS _ rfl)|(apply Sg.mk; . first|exact Qa4 C3 jE|exact Qa4 C2 jI|exact Qa4 CC hl)|(apply Sd.mk; . first|exact ⟨hl,hk,rfl,(by show 0+CC.length<=25;omega)⟩|exact ⟨jE,wV,rfl,(by show 0+C3.length<=25;omega)⟩|exact ⟨jI,qZ,rfl,(by show 0+C2.length<=CC.length;omega)⟩|(refine ⟨rfl,rfl,rfl,?_⟩;show 16+1<=C2.length;omega)|(refine ⟨rfl,rfl,rfl,?_⟩;show 0+16+1<=C2.length;omega)|(show (0:Int)<=A/\(A:Int)<16;omega)|(show (0:Int)<=B/\(B:Int)<16;omega)|(show (0:Int)<=C/\(C:Int)<16;omega))|(refine zpu gN ?_)|(refine zpu gZ ?_)|refine zse ?_|refine zbb ?_ ?_)<;>conv=>whnf))
  all_goals exact zF_):P:=h
theorem QGN {P:Prop} (h:P:=by
  clear hM vO uK;generalize OLs os=OL,os.length=ol,wsv M.m=Xe at *;obtain ⟨_,_,_,me,_,_,_,_,de,ne⟩:=M;dsimp only at *;obtain ⟨_,_,_,_,_,_,_,_,_,_,_,_,_,_,_,_,rfl⟩:=Qgt JI;obtain ⟨_,_,_,_,_,_,_,_,rfl⟩:=Qfo KH;cases de;cases ne;unfold Qcq;unfold Qcq at hB;simp only [Qai,zca,zna,Mc.C,Mc.D,Dk.C,Nk.C] at *;generalize me.length=nn1 at *;(conv=>whnf);(repeat' ((first|exact zi4|refine zj4 fun hb=>?_|(refine QaD qs ?_)|(refine QaD qr ?_)|refine zse ?_|refine zbb ?_ ?_)<;>conv=>whnf))
  all_goals first|(exfalso;omega)|(exfalso;simp at hb;first|done|fail)|(refine hB _ ?_;(exact zwL [(0,some 0),(1,some 1),(2,some 2),(3,some 3),(4,some 4)]))):P:=h
theorem QHF {P:Prop} (h:P:=by
  have fJ:=Qaa E.M.m;have gW:=Qaf E.T;have fG:=Qad E.B;have qH:=(Qaz hE.o).2.1;obtain ⟨hM,hT,_,hB,_,ho,_,_⟩:=hE;obtain ⟨M,T,B,o,_,s⟩:=E;dsimp only [Eg.H,Eg.R,Eg.Rk,Eg.C,wrt] at *;obtain ⟨hx,hc,hY,gA,gI,gB,gH,gE,gD,gG⟩:=hM;obtain ⟨_,_,c,m,_,_,_,_,d,n,_,_,_,wt⟩:=M;dsimp only at *;obtain ⟨_,_,_,_,_,_,_,_,_,_,_,_,_,_,_,_,rfl⟩:=Qgt hx;obtain ⟨_,_,_,_,_,_,_,_,rfl⟩:=Qfo hc;cases d;cases n;dsimp only [Mc.C,Mc.D,Dk.C,Nk.C,Dk.ok,Nk.ok] at *;subst hw
  try dsimp only [cR,Mc.C,Mc.D,Dk.C,Nk.C] at *
  try simp only [Qai,zca,zna,zds,zdz] at *
  generalize gP:wsv m=XX,hX3:bks B=BB,hX4:OLs o=OO,gJ:m.length=nn,gL:B.length=bn,hon:o.length=on,gT:tes T=TT,htn:T.length=tn at *;clear gP gT hX3 hX4 gJ gL hon htn hT hB ho hY gA gI gB gH gE gD gG;refine fnW Tryz.func48 ?_;(conv=>whnf);(repeat' ((first|exact zi2|refine zj0 fun hb=>?_|refine QGK ?_|(refine QaD cl ?_)|refine zse ?_|refine zbb ?_ ?_)<;>conv=>whnf))
  all_goals first|(exfalso;simp at hb;omega)|(exfalso;simp_all;omega)|(apply Fin.mv (m:= [(0,some 0),(1,some 1),(2,some 2),(3,some 3),(4,some 4),(5,some 1),(6,some 2),(7,some 3),(8,some 4)]);(focus exact rfl);(all_goals ((try (show QcI _ _ _ [] _));first|exact aFi|exact rfl)))):P:=h
theorem QHG {P:Prop} (h:P:=by
  clear eX eP eC eE;generalize x.getD A 0=vA,x.getD B 0=vB,x.getD C 0=vC,Qax (x) (pc) (c)=CC,w32 (4*((w32 m:Nat):Int))=m4 at *;generalize w32 m=mm,w32 ((pc:Int)+4)=p4 at *;refine fnW Tryz.func92 ?_;(conv=>whnf);(repeat' ((first|exact zi2|refine zj0 fun hb=>?_|(with_reducible first|refine zv qm ?_|refine zv q4 ?_|refine zv q4m ?_)|refine zq8 ?_|((with_reducible apply Vl.mk (α:=List SV)); . first|exact qR _ (by first|rfl|assumption)|exact fD _ (by first|rfl|assumption))|refine zq1 ?_|refine QHq ?_|(refine zpu fK ?_)|refine zse ?_|refine zbb ?_ ?_)<;>conv=>whnf))
  all_goals exact zF_):P:=h
theorem QEV {P:Prop} (h:P:=by
  generalize knC is v=KN at *;refine fnW Tryz.func111 ?_;dsimp only [Mi.C];(conv=>whnf);(repeat' ((first|exact zi0|refine zj0 fun hb=>?_|(apply Sd.mk; . exact qA)|refine QGB ?_|refine zs0 ?_|refine zbb ?_ ?_)<;>conv=>whnf))
  all_goals
   first
    | exact Qam rfl rfl
  ):P:=h
theorem Qzu {P:Prop} (h:P:=by
  (conv=>whnf);(repeat' ((first|exact zi0|refine zj0 fun hb=>?_|(with_reducible first|refine zv (QbU _ ha) ?_|refine zv (QbU _ fM) ?_)|refine zs0 ?_|refine zbb ?_ ?_)<;>conv=>whnf))
  all_goals
   apply Qam
   (focus rfl)
   simp only [Qba];congr 3
   first
    | (subst hb;simp [Qc7];first|done|fail)
    | (subst hb;simp [Qc7];omega)
    | (unfold Qc7;rw [zN (by omega),zN (by omega),zN (by omega),zN (by omega),zN (by omega)];simp;first|done|fail)
    | (subst hb;rw [zbi];simp [Qc7];first|done|fail)
    | (subst hb;rw [zbi];simp [Qc7];omega)):P:=h
theorem QC2 {P:Prop} (h:P:=by
  clear eX eP eC eE hY gA hm;generalize x.getD A 0=vA,x.getD B 0=vB,x.getD C 0=vC at *;skip;generalize Qax x pc c=CC,w32 m=mm,w32 ((pc:Int)+4)=p4 at *;refine fnW Tryz.func189 ?_;(conv=>whnf);(repeat' ((first|exact zi2|refine zj0 fun hb=>?_|refine QGC ?_|refine Qzp ?_|((with_reducible apply Vl.mk (α:=List SV)); . first|exact yS _ rfl|exact wI _ rfl|exact yS _ rfl)|refine Qzo ?_|(apply Sd.mk; . first|exact ⟨hl,hk,rfl,(by show 0+CC.length<=25;omega)⟩|exact ⟨jE,wV,rfl,(by show 0+C3.length<=25;omega)⟩|(show (0:Int)<=A/\(A:Int)<16;omega)|(show (0:Int)<=B/\(B:Int)<16;omega)|(show (0:Int)<=C/\(C:Int)<16;omega))|(refine zpu fK ?_)|refine zse ?_|refine zbb ?_ ?_)<;>conv=>whnf))
  all_goals exact zF_):P:=h
theorem QC3 {P:Prop} (h:P:=by
  refine fnW Tryz.func77 ?_;(conv=>whnf);(repeat' ((first|exact zi2|refine zj0 fun hb=>?_|refine zq2 ?_|refine QGA ?_|((with_reducible apply Ge.mk (α:=SV)); . first|exact vN|exact KR)|refine QAi ?_|(refine zpu cal ?_)|refine zse ?_|refine zbb ?_ ?_)<;>conv=>whnf))
  all_goals first|(exfalso;simp at hb;omega)|(apply Fin.mv (m:= [(0,some 0),(1,some 1),(2,some 2),(3,some 3),(4,some 4),(5,some 1),(6,some 2),(7,some 3),(8,some 4)]);(focus exact rfl);(all_goals ((try (show QcI _ _ _ [] _));first|exact aFi|exact rfl)))):P:=h
theorem QC4 {P:Prop} (h:P:=by
  refine fnW Tryz.func77 ?_;(conv=>whnf);(repeat' ((first|exact zi2|refine zj0 fun hb=>?_|refine zq2 ?_|refine QGA ?_|refine QEQ ?_|refine QAi ?_|(refine zpu cal ?_)|refine zse ?_|refine zbb ?_ ?_)<;>conv=>whnf))
  all_goals first|(exfalso;simp at hb;omega)|(apply Fin.mv (m:= [(0,some 0),(1,some 1),(2,some 2),(3,some 3),(4,some 4),(5,some 1),(6,some 2),(7,some 3),(8,some 4)]);(focus exact rfl);(all_goals ((try (show QcI _ _ _ [] _));first|exact aFi|exact rfl)))):P:=h
theorem Qlv {P:Prop} (h:P:=by
  (conv=>whnf);(repeat' ((first|exact zi2|refine zj0 fun hb=>?_|refine zse ?_|refine zbb ?_ ?_)<;>conv=>whnf))
  all_goals exact zf_):P:=h
theorem QC5 {P:Prop} (h:P:=by
  refine fnW Tryz.func77 ?_;(conv=>whnf);(repeat' ((first|exact zi2|refine zj0 fun hb=>?_|refine zq2 ?_|refine QGH ?_|refine QAi ?_|(refine Qaw ca ?_)|refine zse ?_|refine zbb ?_ ?_)<;>conv=>whnf))
  all_goals first|(exfalso;simp at hb;omega)|(apply Fin.mv (m:= [(0,some 0),(1,some 1),(2,some 2),(3,some 3),(4,some 4),(5,some 786560),(6,some 786561),(7,some 786562),(8,some 786563)]);(focus exact rfl);(all_goals ((try (show QcI _ _ _ [] _));first|exact aFi|exact rfl)))):P:=h
theorem QC6 {P:Prop} (h:P:=by
  refine fnW Tryz.func77 ?_;(conv=>whnf);(repeat' ((first|exact zi2|refine zj0 fun hb=>?_|refine zq2 ?_|refine QGH ?_|refine QAi ?_|(refine Qaw ca ?_)|refine zse ?_|refine zbb ?_ ?_)<;>conv=>whnf))
  all_goals first|(exfalso;simp at hb;omega)|(apply Fin.mv (m:= [(0,some 0),(1,some 1),(2,some 2),(3,some 3),(4,some 4),(5,some 721024),(6,some 721025),(7,some 721026),(8,some 721027)]);(focus exact rfl);(all_goals ((try (show QcI _ _ _ [] _));first|exact aFi|exact rfl)))):P:=h
theorem QC7 {P:Prop} (h:P:=by
  refine fnW Tryz.func77 ?_;(conv=>whnf);(repeat' ((first|exact zi2|refine zj0 fun hb=>?_|refine zq2 ?_|refine QGH ?_|refine QAi ?_|(refine Qaw ca ?_)|refine zse ?_|refine zbb ?_ ?_)<;>conv=>whnf))
  all_goals first|(exfalso;simp at hb;omega)|(apply Fin.mv (m:= [(0,some 0),(1,some 1),(2,some 2),(3,some 3),(4,some 4),(5,some 655488),(6,some 655489),(7,some 655490),(8,some 655491)]);(focus exact rfl);(all_goals ((try (show QcI _ _ _ [] _));first|exact aFi|exact rfl)))):P:=h
theorem QnR {P:Prop} (h:P:=by
  (conv=>whnf);(repeat' ((first|exact zi2|refine zj0 fun hb=>?_|refine zse ?_|refine zbb ?_ ?_)<;>conv=>whnf))
  all_goals exact zF_):P:=h
theorem QC8 {P:Prop} (h:P:=by
  (conv=>whnf);(repeat' ((first|exact zi3|refine zj0 fun hb=>?_|refine QHw ?_|refine QvT ?_|refine Qfy ?_|(apply Sd.mk; . first|omega|(show (0:Int)<=_/\_<_;omega))|(refine Qaw ce_ ?_)|refine zse ?_|refine zbb ?_ ?_)<;>conv=>whnf))
  all_goals first|(exfalso;simp at hb;omega)|(exfalso;simp at hb;first|done|fail)|(refine hB _ ?_;(exact zwV [(0,some 0),(1,some 1),(2,some 2),(3,some 3),(4,some 4),(5,some 197248),(6,some 197249),(7,some 197250),(8,some 197251)]))):P:=h
theorem QDa {P:Prop} (h:P:=by
  rw [hB] at vK gZ;generalize knC is v=KN at *;refine fnW Tryz.func111 ?_;dsimp only [Mi.C];(conv=>whnf);(repeat' ((first|exact zi0|refine zj0 fun hb=>?_|(apply Sd.mk; . exact qA)|refine QGB ?_|(refine Qac (f:=174) (vK) rfl ?_)|(refine Qac (f:=175) (h3) rfl ?_)|(refine Qac (f:=176) (zW) rfl ?_)|(refine Qac (f:=147) (gZ) rfl ?_)|refine zs0 ?_|refine zbb ?_ ?_)<;>conv=>whnf))
  all_goals
   first
    | exact Qam rfl rfl
  ):P:=h
theorem QDb {P:Prop} (h:P:=by
  refine fnW Tryz.func77 ?_;(conv=>whnf);(repeat' ((first|exact zi2|refine zj0 fun hb=>?_|refine zq2 ?_|(refine Qaw ca ?_)|refine zse ?_|refine zbb ?_ ?_)<;>conv=>whnf))
  all_goals first|(exfalso;simp at hb;omega)|(apply Fin.mv (m:= [(0,some 0),(1,some 1),(2,some 2),(3,some 3),(4,some 4),(5,some 917632),(6,some 917633),(7,some 917634),(8,some 917635)]);(focus exact rfl);(all_goals ((try (show QcI _ _ _ [] _));first|exact aFi|exact rfl)))):P:=h
theorem QDc {P:Prop} (h:P:=by
  refine fnW Tryz.func77 ?_;(conv=>whnf);(repeat' ((first|exact zi2|refine zj0 fun hb=>?_|refine zq2 ?_|(refine Qaw ca ?_)|refine zse ?_|refine zbb ?_ ?_)<;>conv=>whnf))
  all_goals first|(exfalso;simp at hb;omega)|(apply Fin.mv (m:= [(0,some 0),(1,some 1),(2,some 2),(3,some 3),(4,some 4),(5,some 852096),(6,some 852097),(7,some 852098),(8,some 852099)]);(focus exact rfl);(all_goals ((try (show QcI _ _ _ [] _));first|exact aFi|exact rfl)))):P:=h
theorem QDd {P:Prop} (h:P:=by
  clear gP gT hX3 hX4 hX5 hT hB ho hY gA gI gB gH gE gD gG JN gL hb2n htn gJ hon;refine fnW Tryz.func141 ?_;(conv=>whnf);(repeat' ((first|exact zi2|refine zj0 fun hb=>?_|(refine QaD ci ?_)|refine zse ?_|refine zbb ?_ ?_)<;>conv=>whnf))
  all_goals first|(apply Fin.mv (m:= [(0,some 0),(1,some 1),(2,some 2),(3,some 3),(4,some 4),(5,some 1),(6,some 2),(7,some 65984),(8,some 4)]);(focus exact rfl);(all_goals ((try (show QcI _ _ _ [] _));first|exact aFi|exact rfl)))|(exfalso;simp at hb;omega)):P:=h
theorem Qzv {P:Prop} (h:P:=by
  (conv=>whnf);(repeat' ((first|exact zi2|refine zj0 fun hb=>?_|(with_reducible first|refine zv c1 ?_|refine zv c2 ?_)|(refine QaD hp ?_)|refine zse ?_|refine zbb ?_ ?_)<;>conv=>whnf))
  all_goals exact Qb5):P:=h
theorem QDe {P:Prop} (h:P:=by
  (conv=>whnf);(repeat' ((first|exact zi2|refine zj0 fun hb=>?_|(refine QaD hm ?_)|(refine QaD hi ?_)|refine zse ?_|refine zbb ?_ ?_)<;>conv=>whnf))
  all_goals first
   | (refine QcD ?_ ?_;(focus (exact Qb5));rw [<- hB];symm;first|(rw [zbi];simp;first|done|fail)|(rw [zbi];simp;omega)|(rw [zbi];simp_all;first|done|fail)|(rw [zbi];simp;grind))
 ):P:=h
theorem QDf {P:Prop} (h:P:=by
  (conv=>whnf);(repeat' ((first|exact zi0|refine zj0 fun hb=>?_|refine zs0 ?_|refine zbb ?_ ?_)<;>conv=>whnf))
  all_goals first
   | (subst hb;exact Qam rfl rfl)
   | (
     have e1:Qcs ac=5:=by unfold Qcs;rw [zN (by omega),zN (by omega)]
     have e2:QdC ac=false:=by unfold QdC;exact zdf (by omega)
     rw [e1,e2]
     exact Qam rfl rfl)
 ):P:=h
theorem Qzw {P:Prop} (h:P:=by
  by_cases hj:j<xs.length
  .rw [zgd,zgg hj];exact h _ (List.getElem_mem hj)
  .rw [zgd,List.getElem?_eq_none (by omega)];simp):P:=h
theorem QDg {P:Prop} (h:P:=by
  (conv=>whnf);(repeat' ((first|exact zi2|refine zj0 fun hb=>?_|refine QC0 ?_|refine zse ?_|refine zbb ?_ ?_)<;>conv=>whnf))
  all_goals first|(refine QcD ?_ ?_;(focus (exact zf_));rw [<- hB];first|(symm;exact zdf (by omega))|(rw [zbi];simp;grind))):P:=h
theorem Qzx {P:Prop} (h:P:=by
  (conv=>whnf);(repeat' ((first|exact zi2|refine zj0 fun hb=>?_|(refine zpu hg ?_)|refine zse ?_|refine zbb ?_ ?_)<;>conv=>whnf))
  all_goals exact zf_):P:=h
theorem QDi {P:Prop} (h:P:=by
  refine Qat (Qan rfl rfl rfl rfl (Qaj h3)) ?_;refine Qat (Qan rfl rfl rfl rfl (Qaj h4)) ?_;refine Qat (Qan rfl rfl rfl rfl (.cons (Qcy rfl) (.cons (Qcy rfl) .nil))) ?_;refine Qh3 ?_;refine Qh3 ?_;refine QfQ rfl ?_;refine QfQ rfl ?_;refine QfQ rfl ?_
  exact QaL):P:=h
theorem QDj {P:Prop} (h:P:=by
  (conv=>whnf);(repeat' ((first|exact zi2|refine zj0 fun hb=>?_|refine zse ?_|refine zbb ?_ ?_)<;>conv=>whnf))
  all_goals first|(refine QcD ?_ ?_;(focus (exact zf_));rw [<- hB];first|(rw [zbi];simp;first|done|fail)|(rw [zbi];simp;omega)|(rw [zbi];simp;grind))):P:=h
theorem Qzy {P:Prop} (h:P:=by
  (conv=>whnf);(repeat' ((first|exact zi2|refine zj0 fun hb=>?_|refine zse ?_|refine zbb ?_ ?_)<;>conv=>whnf))
  all_goals first|(exact Qb5)):P:=h
theorem QDk {P:Prop} (h:P:=by
  generalize Qcs ac=C,wsv xs=XX at *;refine fnW Tryz.func195 ?_;(conv=>whnf);(repeat' ((first|exact zi0|refine zj0 fun hb=>?_|(refine Qac (f:=233) (cc) rfl ?_)|refine zs0 ?_|refine zbb ?_ ?_)<;>conv=>whnf))
  all_goals first|exact QbP rfl gK rfl rfl):P:=h
theorem QDl {P:Prop} (h:P:=by
  (conv=>whnf);(repeat' ((first|exact zi2|refine zj0 fun hb=>?_|refine zse ?_|refine zbb ?_ ?_)<;>conv=>whnf))
  all_goals first|(exact Qb5)|(exfalso;simp only [zde,decide_eq_false_iff_not,beq_iff_eq,beq_eq_false_iff_ne,ne_eq] at *;omega)):P:=h
theorem QDm {P:Prop} (h:P:=by
  unfold iv at he;refine fnW Tryz.func24 ?_;(conv=>whnf);(repeat' ((first|exact zi2|refine zj0 fun hb=>?_|(refine zpu f1 ?_)|(refine zpu f2 ?_)|(refine zpu he ?_)|refine zse ?_|refine zbb ?_ ?_)<;>conv=>whnf))
  all_goals exact Qfe):P:=h
theorem QDn {P:Prop} (h:P:=by
  (conv=>whnf);(repeat' ((first|exact zi0|refine zj0 fun hb=>?_|refine zs0 ?_|refine zbb ?_ ?_)<;>conv=>whnf))
  all_goals (refine QbP rfl (Qaa _) rfl ?_;simp only [Qba];congr 3;unfold mpg;split<;>omega)):P:=h
theorem QDo {P:Prop} (h:P:=by
  (conv=>whnf);(repeat' ((first|exact zi2|refine zj0 fun hb=>?_|refine zse ?_|refine zbb ?_ ?_)<;>conv=>whnf))
  all_goals first|(exfalso;omega)|(exfalso;simp at hb;omega)|(exact zf_)):P:=h
theorem QDp {P:Prop} (h:P:=by
  (conv=>whnf);(repeat' ((first|exact zi0|refine zj0 fun hb=>?_|(with_reducible refine zv ha ?_)|(refine QaD hl ?_)|refine zst ?_|refine zbb ?_ ?_)<;>conv=>whnf))
  all_goals exact Qb5):P:=h
theorem QDq {P:Prop} (h:P:=by
  (conv=>whnf);(repeat' ((first|exact zi0|refine zj0 fun hb=>?_|refine zs0 ?_|refine zbb ?_ ?_)<;>conv=>whnf))
  all_goals (subst hb;apply Qam;(focus rfl);rfl)):P:=h
theorem QDr {P:Prop} (h:P:=by
  (conv=>whnf);(repeat' ((first|exact zi2|refine zj0 fun hb=>?_|(refine zpu hg ?_)|refine zse ?_|refine zbb ?_ ?_)<;>conv=>whnf))
  all_goals exact zF_):P:=h
theorem QDs {P:Prop} (h:P:=by
  (conv=>whnf);(repeat' ((first|exact zi0|refine zj0 fun hb=>?_|refine zs0 ?_|refine zbb ?_ ?_)<;>conv=>whnf))
  all_goals exact Qam rfl rfl):P:=h
theorem QDt {P:Prop} (h:P:=by
  rw [show (255:Int)=((255:Nat):Int) from rfl,Qcz v 255 hv (by omega),show (255:Nat)=2^8-1 from rfl,Nat.and_two_pow_sub_one_eq_mod]):P:=h
theorem QuC {P:Prop} (h:P:=by
  have:=QoU w hw;rw [h] at this
  exact this):P:=h
theorem zf_ {P:Prop} (h:P:=by (try (conv=>whnf));first|(apply Fin.mk (m:= []);(focus exact rfl);(all_goals ((try (show HlS _ _ [] _));first|exact aFi|exact rfl)))|fail):P:=h
theorem zF_ {P:Prop} (h:P:=by (try (conv=>whnf));first|(exfalso;omega)|(exfalso;simp at hb;done)|(apply Fin.mk (m:= []);(focus exact rfl);(all_goals ((try (show HlS _ _ [] _));first|exact aFi|exact rfl)))|fail):P:=h
theorem Qb5 {P:Prop} (h:P:=by (try (conv=>whnf));first|(apply Fin.mk (m:= [(0,some 0)]);(focus exact rfl);(all_goals ((try (show HlS _ _ [] _));first|exact aFi|exact rfl)))|fail):P:=h
theorem Qfe {P:Prop} (h:P:=by (try (conv=>whnf));first|(exfalso;omega)|(exfalso;simp at hb;done)|(apply Fin.mk (m:= [(0,some 0)]);(focus exact rfl);(all_goals ((try (show HlS _ _ [] _));first|exact aFi|exact rfl)))|fail):P:=h
theorem QdQ {P:Prop} (h:P:=by (try (conv=>whnf));first|(apply Fin.mk (m:= [(0,some 0),(1,some 1)]);(focus exact rfl);(all_goals ((try (show HlS _ _ [] _));first|exact aFi|exact rfl)))|fail):P:=h
theorem QGx {P:Prop} (h:P:=by (try (conv=>whnf));first|(exfalso;omega)|(exfalso;simp at hb;done)|(apply Fin.mk (m:= [(0,some 0),(1,some 1)]);(focus exact rfl);(all_goals ((try (show HlS _ _ [] _));first|exact aFi|exact rfl)))|fail):P:=h
theorem Qsg {P:Prop} (h:P:=by (try (conv=>whnf));first|(apply Fin.mk (m:= [(0,some 0),(1,some 1),(2,some 2)]);(focus exact rfl);(all_goals ((try (show HlS _ _ [] _));first|exact aFi|exact rfl)))|fail):P:=h
theorem QHc {P:Prop} (h:P:=by (try (conv=>whnf));first|(apply Fin.mk (m:= [(0,some _)]);(focus exact rfl);(all_goals ((try (show HlS _ _ [] _));first|exact aFi|exact rfl)))|fail):P:=h
theorem QIG {P:Prop} (h:P:=by (try (conv=>whnf));first|(exfalso;omega)|(exfalso;simp at hb;done)|(apply Fin.mk (m:= [(0,some _)]);(focus exact rfl);(all_goals ((try (show HlS _ _ [] _));first|exact aFi|exact rfl)))|fail):P:=h
theorem QbL {P:Prop} (h:P:=by (try (conv=>whnf));first|(apply Fin.mk (m:= [(0,some 0),(1,some _)]);(focus exact rfl);(all_goals ((try (show HlS _ _ [] _));first|exact aFi|exact rfl)))|fail):P:=h
theorem Qff {P:Prop} (h:P:=by (try (conv=>whnf));first|(exfalso;omega)|(exfalso;simp at hb;done)|(apply Fin.mk (m:= [(0,some 0),(1,some _)]);(focus exact rfl);(all_goals ((try (show HlS _ _ [] _));first|exact aFi|exact rfl)))|fail):P:=h
theorem QjZ {P:Prop} (h:P:=by (try (conv=>whnf));first|(apply Fin.mk (m:= [(0,some 0),(1,some 1),(2,some _)]);(focus exact rfl);(all_goals ((try (show HlS _ _ [] _));first|exact aFi|exact rfl)))|fail):P:=h
theorem QnQ {P:Prop} (h:P:=by (try (conv=>whnf));first|(apply Fin.mk (m:= [(0,some 0),(1,none)]);(focus exact rfl);(all_goals ((try (show HlS _ _ [] _));first|exact aFi|exact rfl)))|fail):P:=h
theorem QCT {P:Prop} (h:P:=by (try (conv=>whnf));first|(apply Fin.mk (m:= [(0,some 0),(1,some _),(2,some _)]);(focus exact rfl);(all_goals ((try (show HlS _ _ [] _));first|exact aFi|exact rfl)))|fail):P:=h
theorem QaD {P:Program} {det:Bool} {f:FuncId} {l:List AV} {hp:Hp} {n:Nat} {K:KK} {args:List AV} {r0:Row} {R:Res} {n0:Nat} {q0:Row} (hF:Fn P f args [r0] (. =R)) (k:Vl (R.ef [⟨n0,0⟩] [r0].length n) fun e=>K [(n0,q0)] e) (h2:l=args.map (Qc0 [⟨n0,0⟩] [r0].length n):=by exact aRn) (a0:hp n0=some q0:=by exact rfl) (b0:QdY [⟨n0,0⟩] [r0].length n 0 ⟨n0,0⟩ r0 q0:=by exact Qar (by assumption)) (h5:Nat.ble R.nw.length Qap=true/\∀ p∈R.up,p.1< [r0].length:=by exact ⟨rfl,QbK rfl⟩):Cll P det f l hp n K:=Qae hF [⟨n0,0⟩] [(n0,q0)] h2 ⟨a0,trivial⟩ ⟨rfl,b0,trivial⟩ h5 k
theorem Qg6 {P:Program} {det:Bool} {f:FuncId} {l:List AV} {hp:Hp} {n:Nat} {K:KK} {args:List AV} {r0 r1:Row} {R:Res} {n0 n1:Nat} {q0 q1:Row} (hF:Fn P f args [r0,r1] (. =R)) (k:Vl (R.ef [⟨n0,0⟩,⟨n1,0⟩] [r0,r1].length n) fun e=>K [(n0,q0),(n1,q1)] e) (h2:l=args.map (Qc0 [⟨n0,0⟩,⟨n1,0⟩] [r0,r1].length n):=by exact aRn) (a0:hp n0=some q0:=by exact rfl) (b0:QdY [⟨n0,0⟩,⟨n1,0⟩] [r0,r1].length n 0 ⟨n0,0⟩ r0 q0:=by exact Qar (by assumption)) (a1:hp n1=some q1:=by exact rfl) (b1:QdY [⟨n0,0⟩,⟨n1,0⟩] [r0,r1].length n 1 ⟨n1,0⟩ r1 q1:=by exact Qar (by assumption)) (h5:Nat.ble R.nw.length Qap=true/\∀ p∈R.up,p.1< [r0,r1].length:=by exact ⟨rfl,QbK rfl⟩):Cll P det f l hp n K:=Qae hF [⟨n0,0⟩,⟨n1,0⟩] [(n0,q0),(n1,q1)] h2 ⟨a0,a1,trivial⟩ ⟨rfl,b0,rfl,b1,trivial⟩ h5 k
theorem QmD {P:Program} {det:Bool} {f:FuncId} {l:List AV} {hp:Hp} {n:Nat} {K:KK} {args:List AV} {r0 r1 r2:Row} {R:Res} {n0 n1 n2:Nat} {q0 q1 q2:Row} (hF:Fn P f args [r0,r1,r2] (. =R)) (k:Vl (R.ef [⟨n0,0⟩,⟨n1,0⟩,⟨n2,0⟩] [r0,r1,r2].length n) fun e=>K [(n0,q0),(n1,q1),(n2,q2)] e) (h2:l=args.map (Qc0 [⟨n0,0⟩,⟨n1,0⟩,⟨n2,0⟩] [r0,r1,r2].length n):=by exact aRn) (a0:hp n0=some q0:=by exact rfl) (b0:QdY [⟨n0,0⟩,⟨n1,0⟩,⟨n2,0⟩] [r0,r1,r2].length n 0 ⟨n0,0⟩ r0 q0:=by exact Qar (by assumption)) (a1:hp n1=some q1:=by exact rfl) (b1:QdY [⟨n0,0⟩,⟨n1,0⟩,⟨n2,0⟩] [r0,r1,r2].length n 1 ⟨n1,0⟩ r1 q1:=by exact Qar (by assumption)) (a2:hp n2=some q2:=by exact rfl) (b2:QdY [⟨n0,0⟩,⟨n1,0⟩,⟨n2,0⟩] [r0,r1,r2].length n 2 ⟨n2,0⟩ r2 q2:=by exact Qar (by assumption)) (h5:Nat.ble R.nw.length Qap=true/\∀ p∈R.up,p.1< [r0,r1,r2].length:=by exact ⟨rfl,QbK rfl⟩):Cll P det f l hp n K:=Qae hF [⟨n0,0⟩,⟨n1,0⟩,⟨n2,0⟩] [(n0,q0),(n1,q1),(n2,q2)] h2 ⟨a0,a1,a2,trivial⟩ ⟨rfl,b0,rfl,b1,rfl,b2,trivial⟩ h5 k
theorem Qg7 {P:Program} {det:Bool} {f:FuncId} {l:List AV} {hp:Hp} {n:Nat} {K:KK} {args:List AV} {r0:Row} {R:Res} {n0:Nat} {q0:Row} (hF:Fn P f args [r0] (. =R)) (k:Vl (R.ef [⟨n0,0⟩] [r0].length n) fun e=>K [(n0,q0)] e) (h2:l=args.map (Qc0 [⟨n0,0⟩] [r0].length n):=by exact aRn) (a0:hp n0=some q0:=by exact rfl) (b0:QdY [⟨n0,0⟩] [r0].length n 0 ⟨n0,0⟩ r0 q0:=by exact QaH (by assumption) rfl) (h5:Nat.ble R.nw.length Qap=true/\∀ p∈R.up,p.1< [r0].length:=by exact ⟨rfl,QbK rfl⟩):Cll P det f l hp n K:=Qae hF [⟨n0,0⟩] [(n0,q0)] h2 ⟨a0,trivial⟩ ⟨rfl,b0,trivial⟩ h5 k
theorem Qsc {P:Program} {det:Bool} {f:FuncId} {l:List AV} {hp:Hp} {n:Nat} {K:KK} {args:List AV} {r0 r1:Row} {R:Res} {n0 n1:Nat} {q0 q1:Row} (hF:Fn P f args [r0,r1] (. =R)) (k:Vl (R.ef [⟨n0,0⟩,⟨n1,0⟩] [r0,r1].length n) fun e=>K [(n0,q0),(n1,q1)] e) (h2:l=args.map (Qc0 [⟨n0,0⟩,⟨n1,0⟩] [r0,r1].length n):=by exact aRn) (a0:hp n0=some q0:=by exact rfl) (b0:QdY [⟨n0,0⟩,⟨n1,0⟩] [r0,r1].length n 0 ⟨n0,0⟩ r0 q0:=by exact Qca rfl rfl) (a1:hp n1=some q1:=by exact rfl) (b1:QdY [⟨n0,0⟩,⟨n1,0⟩] [r0,r1].length n 1 ⟨n1,0⟩ r1 q1:=by exact QaH (by assumption) rfl) (h5:Nat.ble R.nw.length Qap=true/\∀ p∈R.up,p.1< [r0,r1].length:=by exact ⟨rfl,QbK rfl⟩):Cll P det f l hp n K:=Qae hF [⟨n0,0⟩,⟨n1,0⟩] [(n0,q0),(n1,q1)] h2 ⟨a0,a1,trivial⟩ ⟨rfl,b0,rfl,b1,trivial⟩ h5 k
theorem Qzn {P:Program} {det:Bool} {f:FuncId} {l:List AV} {hp:Hp} {n:Nat} {K:KK} {args:List AV} {r0 r1 r2 r3:Row} {R:Res} {n0 n1 n2 n3:Nat} {q0 q1 q2 q3:Row} (hF:Fn P f args [r0,r1,r2,r3] (. =R)) (k:Vl (R.ef [⟨n0,0⟩,⟨n1,0⟩,⟨n2,0⟩,⟨n3,0⟩] [r0,r1,r2,r3].length n) fun e=>K [(n0,q0),(n1,q1),(n2,q2),(n3,q3)] e) (h2:l=args.map (Qc0 [⟨n0,0⟩,⟨n1,0⟩,⟨n2,0⟩,⟨n3,0⟩] [r0,r1,r2,r3].length n):=by exact aRn) (a0:hp n0=some q0:=by exact rfl) (b0:QdY [⟨n0,0⟩,⟨n1,0⟩,⟨n2,0⟩,⟨n3,0⟩] [r0,r1,r2,r3].length n 0 ⟨n0,0⟩ r0 q0:=by exact Qca rfl rfl) (a1:hp n1=some q1:=by exact rfl) (b1:QdY [⟨n0,0⟩,⟨n1,0⟩,⟨n2,0⟩,⟨n3,0⟩] [r0,r1,r2,r3].length n 1 ⟨n1,0⟩ r1 q1:=by exact QaH (by assumption) rfl) (a2:hp n2=some q2:=by exact rfl) (b2:QdY [⟨n0,0⟩,⟨n1,0⟩,⟨n2,0⟩,⟨n3,0⟩] [r0,r1,r2,r3].length n 2 ⟨n2,0⟩ r2 q2:=by exact QaH (by assumption) rfl) (a3:hp n3=some q3:=by exact rfl) (b3:QdY [⟨n0,0⟩,⟨n1,0⟩,⟨n2,0⟩,⟨n3,0⟩] [r0,r1,r2,r3].length n 3 ⟨n3,0⟩ r3 q3:=by exact QaH (by assumption) rfl) (h5:Nat.ble R.nw.length Qap=true/\∀ p∈R.up,p.1< [r0,r1,r2,r3].length:=by exact ⟨rfl,QbK rfl⟩):Cll P det f l hp n K:=Qae hF [⟨n0,0⟩,⟨n1,0⟩,⟨n2,0⟩,⟨n3,0⟩] [(n0,q0),(n1,q1),(n2,q2),(n3,q3)] h2 ⟨a0,a1,a2,a3,trivial⟩ ⟨rfl,b0,rfl,b1,rfl,b2,rfl,b3,trivial⟩ h5 k
theorem Qaw {P:Program} {det:Bool} {f:FuncId} {l:List AV} {hp:Hp} {n:Nat} {K:KK} {args:List AV} {r0 r1 r2 r3 r4:Row} {R:Res} {n0 n1 n2 n3 n4:Nat} {q0 q1 q2 q3 q4:Row} (hF:Fn P f args [r0,r1,r2,r3,r4] (. =R)) (k:Vl (R.ef [⟨n0,0⟩,⟨n1,0⟩,⟨n2,0⟩,⟨n3,0⟩,⟨n4,0⟩] [r0,r1,r2,r3,r4].length n) fun e=>K [(n0,q0),(n1,q1),(n2,q2),(n3,q3),(n4,q4)] e) (h2:l=args.map (Qc0 [⟨n0,0⟩,⟨n1,0⟩,⟨n2,0⟩,⟨n3,0⟩,⟨n4,0⟩] [r0,r1,r2,r3,r4].length n):=by exact aRn) (a0:hp n0=some q0:=by exact rfl) (b0:QdY [⟨n0,0⟩,⟨n1,0⟩,⟨n2,0⟩,⟨n3,0⟩,⟨n4,0⟩] [r0,r1,r2,r3,r4].length n 0 ⟨n0,0⟩ r0 q0:=by exact Qca rfl rfl) (a1:hp n1=some q1:=by exact rfl) (b1:QdY [⟨n0,0⟩,⟨n1,0⟩,⟨n2,0⟩,⟨n3,0⟩,⟨n4,0⟩] [r0,r1,r2,r3,r4].length n 1 ⟨n1,0⟩ r1 q1:=by exact QaH (by assumption) rfl) (a2:hp n2=some q2:=by exact rfl) (b2:QdY [⟨n0,0⟩,⟨n1,0⟩,⟨n2,0⟩,⟨n3,0⟩,⟨n4,0⟩] [r0,r1,r2,r3,r4].length n 2 ⟨n2,0⟩ r2 q2:=by exact QaH (by assumption) rfl) (a3:hp n3=some q3:=by exact rfl) (b3:QdY [⟨n0,0⟩,⟨n1,0⟩,⟨n2,0⟩,⟨n3,0⟩,⟨n4,0⟩] [r0,r1,r2,r3,r4].length n 3 ⟨n3,0⟩ r3 q3:=by exact QaH (by assumption) rfl) (a4:hp n4=some q4:=by exact rfl) (b4:QdY [⟨n0,0⟩,⟨n1,0⟩,⟨n2,0⟩,⟨n3,0⟩,⟨n4,0⟩] [r0,r1,r2,r3,r4].length n 4 ⟨n4,0⟩ r4 q4:=by exact QaH (by assumption) rfl) (h5:Nat.ble R.nw.length Qap=true/\∀ p∈R.up,p.1< [r0,r1,r2,r3,r4].length:=by exact ⟨rfl,QbK rfl⟩):Cll P det f l hp n K:=Qae hF [⟨n0,0⟩,⟨n1,0⟩,⟨n2,0⟩,⟨n3,0⟩,⟨n4,0⟩] [(n0,q0),(n1,q1),(n2,q2),(n3,q3),(n4,q4)] h2 ⟨a0,a1,a2,a3,a4,trivial⟩ ⟨rfl,b0,rfl,b1,rfl,b2,rfl,b3,rfl,b4,trivial⟩ h5 k
theorem QjY {P:Program} {det:Bool} {f:FuncId} {l:List AV} {hp:Hp} {n:Nat} {K:KK} {args:List AV} {r0 r1 r2 r3 r4 r5:Row} {R:Res} {n0 n1 n2 n3 n4 n5:Nat} {q0 q1 q2 q3 q4 q5:Row} (hF:Fn P f args [r0,r1,r2,r3,r4,r5] (. =R)) (k:Vl (R.ef [⟨n0,0⟩,⟨n1,0⟩,⟨n2,0⟩,⟨n3,0⟩,⟨n4,0⟩,⟨n5,0⟩] [r0,r1,r2,r3,r4,r5].length n) fun e=>K [(n0,q0),(n1,q1),(n2,q2),(n3,q3),(n4,q4),(n5,q5)] e) (h2:l=args.map (Qc0 [⟨n0,0⟩,⟨n1,0⟩,⟨n2,0⟩,⟨n3,0⟩,⟨n4,0⟩,⟨n5,0⟩] [r0,r1,r2,r3,r4,r5].length n):=by exact aRn) (a0:hp n0=some q0:=by exact rfl) (b0:QdY [⟨n0,0⟩,⟨n1,0⟩,⟨n2,0⟩,⟨n3,0⟩,⟨n4,0⟩,⟨n5,0⟩] [r0,r1,r2,r3,r4,r5].length n 0 ⟨n0,0⟩ r0 q0:=by exact Qca rfl rfl) (a1:hp n1=some q1:=by exact rfl) (b1:QdY [⟨n0,0⟩,⟨n1,0⟩,⟨n2,0⟩,⟨n3,0⟩,⟨n4,0⟩,⟨n5,0⟩] [r0,r1,r2,r3,r4,r5].length n 1 ⟨n1,0⟩ r1 q1:=by exact QaH (by assumption) rfl) (a2:hp n2=some q2:=by exact rfl) (b2:QdY [⟨n0,0⟩,⟨n1,0⟩,⟨n2,0⟩,⟨n3,0⟩,⟨n4,0⟩,⟨n5,0⟩] [r0,r1,r2,r3,r4,r5].length n 2 ⟨n2,0⟩ r2 q2:=by exact QaH (by assumption) rfl) (a3:hp n3=some q3:=by exact rfl) (b3:QdY [⟨n0,0⟩,⟨n1,0⟩,⟨n2,0⟩,⟨n3,0⟩,⟨n4,0⟩,⟨n5,0⟩] [r0,r1,r2,r3,r4,r5].length n 3 ⟨n3,0⟩ r3 q3:=by exact QaH (by assumption) rfl) (a4:hp n4=some q4:=by exact rfl) (b4:QdY [⟨n0,0⟩,⟨n1,0⟩,⟨n2,0⟩,⟨n3,0⟩,⟨n4,0⟩,⟨n5,0⟩] [r0,r1,r2,r3,r4,r5].length n 4 ⟨n4,0⟩ r4 q4:=by exact QaH (by assumption) rfl) (a5:hp n5=some q5:=by exact rfl) (b5:QdY [⟨n0,0⟩,⟨n1,0⟩,⟨n2,0⟩,⟨n3,0⟩,⟨n4,0⟩,⟨n5,0⟩] [r0,r1,r2,r3,r4,r5].length n 5 ⟨n5,0⟩ r5 q5:=by exact Qar (by assumption)) (h5:Nat.ble R.nw.length Qap=true/\∀ p∈R.up,p.1< [r0,r1,r2,r3,r4,r5].length:=by exact ⟨rfl,QbK rfl⟩):Cll P det f l hp n K:=Qae hF [⟨n0,0⟩,⟨n1,0⟩,⟨n2,0⟩,⟨n3,0⟩,⟨n4,0⟩,⟨n5,0⟩] [(n0,q0),(n1,q1),(n2,q2),(n3,q3),(n4,q4),(n5,q5)] h2 ⟨a0,a1,a2,a3,a4,a5,trivial⟩ ⟨rfl,b0,rfl,b1,rfl,b2,rfl,b3,rfl,b4,rfl,b5,trivial⟩ h5 k
theorem fnW {f : FuncId} {fn : Func} (hf : Tryz.prog.funcs[f]? = some fn) {c : Code} {args : List AV} {H : List Row} {Post : Res -> Prop} {tm : Tm} {hl : Hl} (k : vc Tryz.prog tys fn.ntmps H.length c ⟨tm,hl,[0]⟩ (QG0 tys H Post fn.results.toList)) (hb : fn.body = some c := by exact rfl) (h1 : Qkg 0 args = tm := by (dsimp only [Qkg,Nat.zero_add,Nat.reduceAdd]); first | done | exact rfl) (h2 : Qc4 0 H = hl := by (dsimp only [Qc4,Nat.zero_add,Nat.reduceAdd]); first | done | exact rfl) (gF : (Nat.ble args.length fn.ntmps && Nat.ble H.length 1000) = true := by exact rfl) (hn : (fn.name == "runtime.NumGoroutine") = false := by kernel_rfl) : FN f args H Post := by
 subst h1 h2;exact QlT QxD Qmy _ _ hf hn hb rfl rfl gF k
theorem zpu {P:Program} {det:Bool} {f:FuncId} {l:List AV} {hp:Hp} {n0:Nat} {K:KK} {args:List AV} {v:TV} (hF:Fn P f args [] (. =⟨v,[],[]⟩)) (k:Vl (QB7 [] 0 n0 v) fun v=>K [] ⟨v,[],[]⟩) (h2:l=args.map (Qc0 [] 0 n0):=by exact aRn):Cll P det f l hp n0 K:=Qac hF h2 k
theorem zwL (m:Rn) {N k:Nat} {σ σ':St} (h1:TmL m (tmG σ.tm) σ'.tm:=by ((repeat' (first|exact Qa1|apply QaQ));all_goals exact aFi)) (h2:HlL m (hpG σ.h) σ'.h:=by ((show HlS _ _ [] _);exact aFi)) (h3:(Qz2 m σ'.ids&&idn m k)=true:=by (first|exact rfl|rfl|kernel_rfl)):Wk N k σ σ':=Qcu m h1 h2 h3
theorem zwV (m:Rn) {N k:Nat} {σ σ':St} (h1:TmL m (tmG σ.tm) σ'.tm:=by ((repeat' (first|exact Qa1|apply QaQ));all_goals exact aFi)) (h2:HlV m (hpG σ.h) σ'.h:=by ((show QcI _ _ _ [] _);exact aFi)) (h3:(Qz2 m σ'.ids&&idn m k)=true:=by (first|exact rfl|rfl|kernel_rfl)):Wk N k σ σ':=QGt m h1 h2 h3
end Go.Proofs.YtflaceijiphfdaaGreat
