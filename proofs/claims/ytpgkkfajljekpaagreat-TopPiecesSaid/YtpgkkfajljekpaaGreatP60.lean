import Derived.Test.YtpgkkfajljekpaaGreatP38
set_option linter.unusedSimpArgs false
set_option linter.unusedVariables false
set_option maxHeartbeats 0
set_option maxRecDepth 100000
namespace Go.Proofs.YtpgkkfajljekpaaGreat
open Go Go.RowKit
theorem Qpz (E:Eg) (hE:E.ok) (m:Mi) (hm:Qbo m) (hn:1<=m.n/\m.n<=16) (jW:Qdf m.o (E.M.x.getD m.a 0) (E.M.x.getD m.b 0)=true) (fK:m.o=40) :
  FN 142 [.s (.ptr 0 0),.agg m.C] E.H (. =(fnE E 0 (0) (w32 ((lpc E.M.pc m.n:Nat)+(m.k:Nat)))).R (.a (.s (.bool true)))):=by
 exact Qom
theorem Qpy (E:Eg) (hE:E.ok) (m:Mi) (hm:Qbo m) (hn:1<=m.n/\m.n<=16) (jW:Qdf m.o (E.M.x.getD m.a 0) (E.M.x.getD m.b 0)=false) (fK:m.o=40) :
  FN 142 [.s (.ptr 0 0),.agg m.C] E.H (. =(fnE E 0 (0) (w32 ((lpc E.M.pc m.n:Nat)+4))).R (.a (.s (.bool true)))):=by
 exact Qom
theorem QpB (E:Eg) (hE:E.ok) (m:Mi) (hm:Qbo m) (hn:1<=m.n/\m.n<=16) (jW:Qdf m.o (E.M.x.getD m.a 0) (E.M.x.getD m.b 0)=true) (fK:m.o=41) :
  FN 142 [.s (.ptr 0 0),.agg m.C] E.H (. =(fnE E 0 (0) (w32 ((lpc E.M.pc m.n:Nat)+(m.k:Nat)))).R (.a (.s (.bool true)))):=by
 exact Qom
theorem QpA (E:Eg) (hE:E.ok) (m:Mi) (hm:Qbo m) (hn:1<=m.n/\m.n<=16) (jW:Qdf m.o (E.M.x.getD m.a 0) (E.M.x.getD m.b 0)=false) (fK:m.o=41) :
  FN 142 [.s (.ptr 0 0),.agg m.C] E.H (. =(fnE E 0 (0) (w32 ((lpc E.M.pc m.n:Nat)+4))).R (.a (.s (.bool true)))):=by
 exact Qom
theorem QpD (E:Eg) (hE:E.ok) (m:Mi) (hm:Qbo m) (hn:1<=m.n/\m.n<=16) (jW:Qdf m.o (E.M.x.getD m.a 0) (E.M.x.getD m.b 0)=true) (fK:m.o=42) :
  FN 142 [.s (.ptr 0 0),.agg m.C] E.H (. =(fnE E 0 (0) (w32 ((lpc E.M.pc m.n:Nat)+(m.k:Nat)))).R (.a (.s (.bool true)))):=by
 exact Qom
theorem QpC (E:Eg) (hE:E.ok) (m:Mi) (hm:Qbo m) (hn:1<=m.n/\m.n<=16) (jW:Qdf m.o (E.M.x.getD m.a 0) (E.M.x.getD m.b 0)=false) (fK:m.o=42) :
  FN 142 [.s (.ptr 0 0),.agg m.C] E.H (. =(fnE E 0 (0) (w32 ((lpc E.M.pc m.n:Nat)+4))).R (.a (.s (.bool true)))):=by
 exact Qom
theorem QpF (E:Eg) (hE:E.ok) (m:Mi) (hm:Qbo m) (hn:1<=m.n/\m.n<=16) (jW:Qdf m.o (E.M.x.getD m.a 0) (E.M.x.getD m.b 0)=true) (fK:m.o=43) :
  FN 142 [.s (.ptr 0 0),.agg m.C] E.H (. =(fnE E 0 (0) (w32 ((lpc E.M.pc m.n:Nat)+(m.k:Nat)))).R (.a (.s (.bool true)))):=by
 exact Qom
theorem QpE (E:Eg) (hE:E.ok) (m:Mi) (hm:Qbo m) (hn:1<=m.n/\m.n<=16) (jW:Qdf m.o (E.M.x.getD m.a 0) (E.M.x.getD m.b 0)=false) (fK:m.o=43) :
  FN 142 [.s (.ptr 0 0),.agg m.C] E.H (. =(fnE E 0 (0) (w32 ((lpc E.M.pc m.n:Nat)+4))).R (.a (.s (.bool true)))):=by
 exact Qom
theorem QpH (E:Eg) (hE:E.ok) (m:Mi) (hm:Qbo m) (hn:1<=m.n/\m.n<=16) (jW:Qdf m.o (E.M.x.getD m.a 0) (E.M.x.getD m.b 0)=true) (fK:m.o=44) :
  FN 142 [.s (.ptr 0 0),.agg m.C] E.H (. =(fnE E 0 (0) (w32 ((lpc E.M.pc m.n:Nat)+(m.k:Nat)))).R (.a (.s (.bool true)))):=by
 exact Qom
theorem QpG (E:Eg) (hE:E.ok) (m:Mi) (hm:Qbo m) (hn:1<=m.n/\m.n<=16) (jW:Qdf m.o (E.M.x.getD m.a 0) (E.M.x.getD m.b 0)=false) (fK:m.o=44) :
  FN 142 [.s (.ptr 0 0),.agg m.C] E.H (. =(fnE E 0 (0) (w32 ((lpc E.M.pc m.n:Nat)+4))).R (.a (.s (.bool true)))):=by
 exact Qom
theorem QpJ (E:Eg) (hE:E.ok) (m:Mi) (hm:Qbo m) (hn:1<=m.n/\m.n<=16) (jW:Qdf m.o (E.M.x.getD m.a 0) (E.M.x.getD m.b 0)=true) (fK:m.o=45) :
  FN 142 [.s (.ptr 0 0),.agg m.C] E.H (. =(fnE E 0 (0) (w32 ((lpc E.M.pc m.n:Nat)+(m.k:Nat)))).R (.a (.s (.bool true)))):=by
 exact Qom
theorem QpI (E:Eg) (hE:E.ok) (m:Mi) (hm:Qbo m) (hn:1<=m.n/\m.n<=16) (jW:Qdf m.o (E.M.x.getD m.a 0) (E.M.x.getD m.b 0)=false) (fK:m.o=45) :
  FN 142 [.s (.ptr 0 0),.agg m.C] E.H (. =(fnE E 0 (0) (w32 ((lpc E.M.pc m.n:Nat)+4))).R (.a (.s (.bool true)))):=by
 exact Qom
end Go.Proofs.YtpgkkfajljekpaaGreat
