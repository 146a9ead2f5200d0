/- A deployment of any draft. -/
import Derived.Test.YtikpcebhcnjkhaaGreatDoorDAdvM3
import Derived.Test.YtikpcebhcnjkhaaGreatDoorDAdvM4
import Derived.Test.YtikpcebhcnjkhaaGreatDoorDAdvM5
namespace Go.Proofs.YtikpcebhcnjkhaaGreatDoor
open Go.RowKit
theorem setup_any (N Wt C : Nat) (x : Sl Dr) (w : World) (hN : N < 256) (hW : Wt < 256) (hC : C < 256) (hx : Rd w 6 x.a x.l.length (x.l.flatMap drC)) (hok : ∀ d ∈ x.l, d.ok w) : Calls Tryz.prog 8 #[.agg #[.int .u8 (N : Int), .int .u8 (Wt : Int), .int .u8 (C : Int), .slice x.a x.l.length x.c]] w (RetDep (3 + N % 3) (C % 3) w) := by
 have h3 : N % 3 = 0 ∨ N % 3 = 1 ∨ N % 3 = 2 := by omega
 rcases h3 with h | h | h
 · rw [h]; exact setup3_any N Wt C x w hN (by omega) hW hC hx hok
 · rw [h]; exact setup4_any N Wt C x w hN (by omega) hW hC hx hok
 · rw [h]; exact setup5_any N Wt C x w hN (by omega) hW hC hx hok
end Go.Proofs.YtikpcebhcnjkhaaGreatDoor
