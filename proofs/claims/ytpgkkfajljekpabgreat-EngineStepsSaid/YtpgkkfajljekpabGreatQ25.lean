import Derived.Test.YtpgkkfajljekpabGreatQ24
set_option linter.unusedSimpArgs false
set_option linter.unusedVariables false
set_option maxHeartbeats 0
set_option maxRecDepth 100000
namespace Go.Proofs.YtpgkkfajljekpabGreat
open Go Go.RowKit
theorem QpL (E:Eg) (hE:E.ok) (m:Mi) (hm:Qbq m) (hn:1<=m.n/\m.n<=16) (jT:Qdk m.o (E.M.x.getD m.a 0) (E.M.x.getD m.b 0)=true) (fO:m.o=40) :
  FN 93 [.s (.ptr 0 0),.agg m.C] E.H (. =(fnE E 0 (0) (w32 ((lpc E.M.pc m.n:Nat)+(m.k:Nat)))).R (.a (.s (.bool true)))):=by
 exact Qox
theorem QpK (E:Eg) (hE:E.ok) (m:Mi) (hm:Qbq m) (hn:1<=m.n/\m.n<=16) (jT:Qdk m.o (E.M.x.getD m.a 0) (E.M.x.getD m.b 0)=false) (fO:m.o=40) :
  FN 93 [.s (.ptr 0 0),.agg m.C] E.H (. =(fnE E 0 (0) (w32 ((lpc E.M.pc m.n:Nat)+4))).R (.a (.s (.bool true)))):=by
 exact Qox
theorem QpN (E:Eg) (hE:E.ok) (m:Mi) (hm:Qbq m) (hn:1<=m.n/\m.n<=16) (jT:Qdk m.o (E.M.x.getD m.a 0) (E.M.x.getD m.b 0)=true) (fO:m.o=41) :
  FN 93 [.s (.ptr 0 0),.agg m.C] E.H (. =(fnE E 0 (0) (w32 ((lpc E.M.pc m.n:Nat)+(m.k:Nat)))).R (.a (.s (.bool true)))):=by
 exact Qox
theorem QpM (E:Eg) (hE:E.ok) (m:Mi) (hm:Qbq m) (hn:1<=m.n/\m.n<=16) (jT:Qdk m.o (E.M.x.getD m.a 0) (E.M.x.getD m.b 0)=false) (fO:m.o=41) :
  FN 93 [.s (.ptr 0 0),.agg m.C] E.H (. =(fnE E 0 (0) (w32 ((lpc E.M.pc m.n:Nat)+4))).R (.a (.s (.bool true)))):=by
 exact Qox
theorem QpP (E:Eg) (hE:E.ok) (m:Mi) (hm:Qbq m) (hn:1<=m.n/\m.n<=16) (jT:Qdk m.o (E.M.x.getD m.a 0) (E.M.x.getD m.b 0)=true) (fO:m.o=42) :
  FN 93 [.s (.ptr 0 0),.agg m.C] E.H (. =(fnE E 0 (0) (w32 ((lpc E.M.pc m.n:Nat)+(m.k:Nat)))).R (.a (.s (.bool true)))):=by
 exact Qox
theorem QpO (E:Eg) (hE:E.ok) (m:Mi) (hm:Qbq m) (hn:1<=m.n/\m.n<=16) (jT:Qdk m.o (E.M.x.getD m.a 0) (E.M.x.getD m.b 0)=false) (fO:m.o=42) :
  FN 93 [.s (.ptr 0 0),.agg m.C] E.H (. =(fnE E 0 (0) (w32 ((lpc E.M.pc m.n:Nat)+4))).R (.a (.s (.bool true)))):=by
 exact Qox
theorem QpR (E:Eg) (hE:E.ok) (m:Mi) (hm:Qbq m) (hn:1<=m.n/\m.n<=16) (jT:Qdk m.o (E.M.x.getD m.a 0) (E.M.x.getD m.b 0)=true) (fO:m.o=43) :
  FN 93 [.s (.ptr 0 0),.agg m.C] E.H (. =(fnE E 0 (0) (w32 ((lpc E.M.pc m.n:Nat)+(m.k:Nat)))).R (.a (.s (.bool true)))):=by
 exact Qox
theorem QpQ (E:Eg) (hE:E.ok) (m:Mi) (hm:Qbq m) (hn:1<=m.n/\m.n<=16) (jT:Qdk m.o (E.M.x.getD m.a 0) (E.M.x.getD m.b 0)=false) (fO:m.o=43) :
  FN 93 [.s (.ptr 0 0),.agg m.C] E.H (. =(fnE E 0 (0) (w32 ((lpc E.M.pc m.n:Nat)+4))).R (.a (.s (.bool true)))):=by
 exact Qox
theorem QpT (E:Eg) (hE:E.ok) (m:Mi) (hm:Qbq m) (hn:1<=m.n/\m.n<=16) (jT:Qdk m.o (E.M.x.getD m.a 0) (E.M.x.getD m.b 0)=true) (fO:m.o=44) :
  FN 93 [.s (.ptr 0 0),.agg m.C] E.H (. =(fnE E 0 (0) (w32 ((lpc E.M.pc m.n:Nat)+(m.k:Nat)))).R (.a (.s (.bool true)))):=by
 exact Qox
theorem QpS (E:Eg) (hE:E.ok) (m:Mi) (hm:Qbq m) (hn:1<=m.n/\m.n<=16) (jT:Qdk m.o (E.M.x.getD m.a 0) (E.M.x.getD m.b 0)=false) (fO:m.o=44) :
  FN 93 [.s (.ptr 0 0),.agg m.C] E.H (. =(fnE E 0 (0) (w32 ((lpc E.M.pc m.n:Nat)+4))).R (.a (.s (.bool true)))):=by
 exact Qox
theorem QpV (E:Eg) (hE:E.ok) (m:Mi) (hm:Qbq m) (hn:1<=m.n/\m.n<=16) (jT:Qdk m.o (E.M.x.getD m.a 0) (E.M.x.getD m.b 0)=true) (fO:m.o=45) :
  FN 93 [.s (.ptr 0 0),.agg m.C] E.H (. =(fnE E 0 (0) (w32 ((lpc E.M.pc m.n:Nat)+(m.k:Nat)))).R (.a (.s (.bool true)))):=by
 exact Qox
theorem QpU (E:Eg) (hE:E.ok) (m:Mi) (hm:Qbq m) (hn:1<=m.n/\m.n<=16) (jT:Qdk m.o (E.M.x.getD m.a 0) (E.M.x.getD m.b 0)=false) (fO:m.o=45) :
  FN 93 [.s (.ptr 0 0),.agg m.C] E.H (. =(fnE E 0 (0) (w32 ((lpc E.M.pc m.n:Nat)+4))).R (.a (.s (.bool true)))):=by
 exact Qox
end Go.Proofs.YtpgkkfajljekpabGreat
