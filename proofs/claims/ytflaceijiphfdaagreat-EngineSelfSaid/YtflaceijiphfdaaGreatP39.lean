import Derived.Test.YtflaceijiphfdaaGreatP38
import Derived.Test.YtflaceijiphfdaaGreatP36
set_option linter.unusedSimpArgs false
set_option linter.unusedVariables false
set_option maxHeartbeats 0
set_option maxRecDepth 100000
namespace Go.Proofs.YtflaceijiphfdaaGreat
open Go Go.RowKit
theorem Qpg (E:Eg) (hE:E.ok) (m:Mi) (hm:Qbn m) (hn:1<=m.n/\m.n<=16) (jJ:Qc7 m.o (E.M.x.getD m.a 0) (E.M.x.getD m.b 0)=true) (fH:m.o=40) :
  FN 77 [.s (.ptr 0 0),.agg m.C] E.H (. =(fnE E 0 (0) (w32 ((lpc E.M.pc m.n:Nat)+(m.k:Nat)))).R (.a (.s (.bool true)))):=by
 exact Qn5
theorem Qpf (E:Eg) (hE:E.ok) (m:Mi) (hm:Qbn m) (hn:1<=m.n/\m.n<=16) (jJ:Qc7 m.o (E.M.x.getD m.a 0) (E.M.x.getD m.b 0)=false) (fH:m.o=40) :
  FN 77 [.s (.ptr 0 0),.agg m.C] E.H (. =(fnE E 0 (0) (w32 ((lpc E.M.pc m.n:Nat)+4))).R (.a (.s (.bool true)))):=by
 exact Qn5
theorem Qpi (E:Eg) (hE:E.ok) (m:Mi) (hm:Qbn m) (hn:1<=m.n/\m.n<=16) (jJ:Qc7 m.o (E.M.x.getD m.a 0) (E.M.x.getD m.b 0)=true) (fH:m.o=41) :
  FN 77 [.s (.ptr 0 0),.agg m.C] E.H (. =(fnE E 0 (0) (w32 ((lpc E.M.pc m.n:Nat)+(m.k:Nat)))).R (.a (.s (.bool true)))):=by
 exact Qn5
theorem Qph (E:Eg) (hE:E.ok) (m:Mi) (hm:Qbn m) (hn:1<=m.n/\m.n<=16) (jJ:Qc7 m.o (E.M.x.getD m.a 0) (E.M.x.getD m.b 0)=false) (fH:m.o=41) :
  FN 77 [.s (.ptr 0 0),.agg m.C] E.H (. =(fnE E 0 (0) (w32 ((lpc E.M.pc m.n:Nat)+4))).R (.a (.s (.bool true)))):=by
 exact Qn5
theorem Qpk (E:Eg) (hE:E.ok) (m:Mi) (hm:Qbn m) (hn:1<=m.n/\m.n<=16) (jJ:Qc7 m.o (E.M.x.getD m.a 0) (E.M.x.getD m.b 0)=true) (fH:m.o=42) :
  FN 77 [.s (.ptr 0 0),.agg m.C] E.H (. =(fnE E 0 (0) (w32 ((lpc E.M.pc m.n:Nat)+(m.k:Nat)))).R (.a (.s (.bool true)))):=by
 exact Qn5
theorem Qpj (E:Eg) (hE:E.ok) (m:Mi) (hm:Qbn m) (hn:1<=m.n/\m.n<=16) (jJ:Qc7 m.o (E.M.x.getD m.a 0) (E.M.x.getD m.b 0)=false) (fH:m.o=42) :
  FN 77 [.s (.ptr 0 0),.agg m.C] E.H (. =(fnE E 0 (0) (w32 ((lpc E.M.pc m.n:Nat)+4))).R (.a (.s (.bool true)))):=by
 exact Qn5
theorem Qpm (E:Eg) (hE:E.ok) (m:Mi) (hm:Qbn m) (hn:1<=m.n/\m.n<=16) (jJ:Qc7 m.o (E.M.x.getD m.a 0) (E.M.x.getD m.b 0)=true) (fH:m.o=43) :
  FN 77 [.s (.ptr 0 0),.agg m.C] E.H (. =(fnE E 0 (0) (w32 ((lpc E.M.pc m.n:Nat)+(m.k:Nat)))).R (.a (.s (.bool true)))):=by
 exact Qn5
theorem Qpl (E:Eg) (hE:E.ok) (m:Mi) (hm:Qbn m) (hn:1<=m.n/\m.n<=16) (jJ:Qc7 m.o (E.M.x.getD m.a 0) (E.M.x.getD m.b 0)=false) (fH:m.o=43) :
  FN 77 [.s (.ptr 0 0),.agg m.C] E.H (. =(fnE E 0 (0) (w32 ((lpc E.M.pc m.n:Nat)+4))).R (.a (.s (.bool true)))):=by
 exact Qn5
theorem Qpo (E:Eg) (hE:E.ok) (m:Mi) (hm:Qbn m) (hn:1<=m.n/\m.n<=16) (jJ:Qc7 m.o (E.M.x.getD m.a 0) (E.M.x.getD m.b 0)=true) (fH:m.o=44) :
  FN 77 [.s (.ptr 0 0),.agg m.C] E.H (. =(fnE E 0 (0) (w32 ((lpc E.M.pc m.n:Nat)+(m.k:Nat)))).R (.a (.s (.bool true)))):=by
 exact Qn5
theorem Qpn (E:Eg) (hE:E.ok) (m:Mi) (hm:Qbn m) (hn:1<=m.n/\m.n<=16) (jJ:Qc7 m.o (E.M.x.getD m.a 0) (E.M.x.getD m.b 0)=false) (fH:m.o=44) :
  FN 77 [.s (.ptr 0 0),.agg m.C] E.H (. =(fnE E 0 (0) (w32 ((lpc E.M.pc m.n:Nat)+4))).R (.a (.s (.bool true)))):=by
 exact Qn5
theorem Qpq (E:Eg) (hE:E.ok) (m:Mi) (hm:Qbn m) (hn:1<=m.n/\m.n<=16) (jJ:Qc7 m.o (E.M.x.getD m.a 0) (E.M.x.getD m.b 0)=true) (fH:m.o=45) :
  FN 77 [.s (.ptr 0 0),.agg m.C] E.H (. =(fnE E 0 (0) (w32 ((lpc E.M.pc m.n:Nat)+(m.k:Nat)))).R (.a (.s (.bool true)))):=by
 exact Qn5
theorem Qpp (E:Eg) (hE:E.ok) (m:Mi) (hm:Qbn m) (hn:1<=m.n/\m.n<=16) (jJ:Qc7 m.o (E.M.x.getD m.a 0) (E.M.x.getD m.b 0)=false) (fH:m.o=45) :
  FN 77 [.s (.ptr 0 0),.agg m.C] E.H (. =(fnE E 0 (0) (w32 ((lpc E.M.pc m.n:Nat)+4))).R (.a (.s (.bool true)))):=by
 exact Qn5
end Go.Proofs.YtflaceijiphfdaaGreat
