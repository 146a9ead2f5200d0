/- The contract of entry.Batches. -/
import Derived.Test.YthmoplkleopahaaDoorEntM
namespace Go.Proofs.YthmoplkleopahaaDoor
open Go.RowKit

theorem batches_any (A : Option Addr) (c : Nat) (l : List Rq) (k b : Int) (w : World) (he : Env w) (h : RqIn w A c l) (hn : l.length ≤ 1000) :
    Calls Tryd.prog 22 #[.slice A l.length c, .int .i64 k, .int .i64 b] w (RetBat (batE l k b) (batL l k b) w) := by
  by_cases hok : k < 1 ∨ 8 < k ∨ b < 1 ∨ 2000 < b
  · exact batches_range A c l k b w hok
  · by_cases hv : vRqs [] l = 0
    · exact batches_main A c l k b w he h hn hok hv
    · exact batches_invalid A c l k b w h hok hv
end Go.Proofs.YthmoplkleopahaaDoor
