/- The law that the disk stores what was written. -/
import Derived.Test.YtmefbkfapeijgaaDskQ
import Derived.Test.YtmefbkfapeijgaaDskR
namespace Go.Proofs.Ytmefbkfapeijgaa
open Go.RowKit

theorem dstores_any (n pages : Int) (block frame : Nat) (D : Option Addr) (dc : Nat) (ls : List Int) (read : Bool) (w : World) (hp1 : -9223372036854775808 ≤ pages) (hp2 : pages ≤ 9223372036854775807) (hls : ∀ x ∈ ls, -9223372036854775808 ≤ x ∧ x ≤ 9223372036854775807) (hd : Rd w w.heap.size D (zs ls)) :
    Calls Try.prog 17 #[.int .i64 n, .int .i64 pages, .int .u32 block, .int .u32 frame, .slice D ls.length dc, .bool read] w fun e w' => e = .returned (.bool true) ∧ Below w.heap.size w w' := by
  cases read
  · exact dstores_w n pages block frame D dc ls w hp1 hp2 hls hd
  · exact dstores_r n pages block frame D dc ls w hp1 hp2 hls hd
end Go.Proofs.Ytmefbkfapeijgaa
