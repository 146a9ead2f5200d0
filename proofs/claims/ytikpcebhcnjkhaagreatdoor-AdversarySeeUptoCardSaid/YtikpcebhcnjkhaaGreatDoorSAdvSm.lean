/- adversary.same. -/
import Derived.Test.YtikpcebhcnjkhaaGreatDoorSPl
import Derived.Test.YtikpcebhcnjkhaaGreatDoorSAdvSq
import Derived.Test.YtikpcebhcnjkhaaGreatDoorSAdvSt
import Derived.Test.YtikpcebhcnjkhaaGreatDoorSA6
namespace Go.Proofs.YtikpcebhcnjkhaaGreatDoor
open Go.RowKit Go.Shelf
theorem run_eq_sg (x y : Sg) (w : World) : (binOp .eql 42 (.agg #[.int .i64 x.server, .int .i64 x.kind, .int .i64 x.view, .int .i64 x.slot, .string ⟨x.digest.toArray⟩, .string ⟨x.sig.toArray⟩]) (.agg #[.int .i64 y.server, .int .i64 y.kind, .int .i64 y.view, .int .i64 y.slot, .string ⟨y.digest.toArray⟩, .string ⟨y.sig.toArray⟩])).run Tryz.prog w = .ok (.bool (decide (x = y))) w := by
 rw [run_eql_struct, run_sg]
 rfl
set_option maxRecDepth 100000 in
set_option maxHeartbeats 8000000 in
theorem same_any (a b : St) (w : World) (ha : a.ok w) (hb : b.ok w) (sa : a.cert.l.length ≤ 16777216) (sb : b.cert.l.length ≤ 16777216) : Calls Tryz.prog 45 #[.agg #[.int .i64 a.server, .int .i64 a.view, .int .i64 a.length, .int .i64 a.lockView, .string ⟨a.lock.toArray⟩, .slice a.cert.a a.cert.l.length a.cert.c, .int .i64 a.signed.server, .int .i64 a.signed.kind, .int .i64 a.signed.view, .int .i64 a.signed.slot, .string ⟨a.signed.digest.toArray⟩, .string ⟨a.signed.sig.toArray⟩], .agg #[.int .i64 b.server, .int .i64 b.view, .int .i64 b.length, .int .i64 b.lockView, .string ⟨b.lock.toArray⟩, .slice b.cert.a b.cert.l.length b.cert.c, .int .i64 b.signed.server, .int .i64 b.signed.kind, .int .i64 b.signed.view, .int .i64 b.signed.slot, .string ⟨b.signed.digest.toArray⟩, .string ⟨b.signed.sig.toArray⟩]] w (RetBool (sameSt a b) w) := by
 have HE : Hid (∀ W, Below w.heap.size w W → Calls Tryz.prog 72 #[.slice a.cert.a a.cert.l.length a.cert.c, .slice b.cert.a b.cert.l.length b.cert.c] W (RetBool (decide (a.cert.l = b.cert.l)) W)) := hD (fun W h => slEqual_any _ _ a.cert.l _ _ b.cert.l W (Rd.below ha.2.1 h) (Rd.below hb.2.1 h) sa sb)
 have HX := hD (bz_new w [.int .i64 a.server, .int .i64 a.view, .int .i64 a.length, .int .i64 a.lockView, .string ⟨a.lock.toArray⟩, .slice a.cert.a a.cert.l.length a.cert.c, .int .i64 a.signed.server, .int .i64 a.signed.kind, .int .i64 a.signed.view, .int .i64 a.signed.slot, .string ⟨a.signed.digest.toArray⟩, .string ⟨a.signed.sig.toArray⟩] 62 [.int .i64 b.server, .int .i64 b.view, .int .i64 b.length, .int .i64 b.lockView, .string ⟨b.lock.toArray⟩, .slice b.cert.a b.cert.l.length b.cert.c, .int .i64 b.signed.server, .int .i64 b.signed.kind, .int .i64 b.signed.view, .int .i64 b.signed.slot, .string ⟨b.signed.digest.toArray⟩, .string ⟨b.signed.sig.toArray⟩] 62)
 have hsg := run_eq_sg a.signed b.signed
 clear ha hb sa sb
 by_cases h0 : a.server = b.server
 · by_cases h1 : a.view = b.view
   · by_cases h2 : a.length = b.length
     · by_cases h3 : a.lockView = b.lockView
       · by_cases h4 : a.lock = b.lock
         · have q0 : (a.server == b.server) = true := by simpa using h0
           have q1 : (a.view == b.view) = true := by simpa using h1
           have q2 : (a.length == b.length) = true := by simpa using h2
           have q3 : (a.lockView == b.lockView) = true := by simpa using h3
           have q4 : (a.lock == b.lock) = true := by simpa using h4
           have HT : Hid (sameSt a b = (decide (a.cert.l = b.cert.l) && decide (a.signed = b.signed))) := hD (by unfold sameSt; rw [decide_eq_true h0, decide_eq_true h1, decide_eq_true h2, decide_eq_true h3, decide_eq_true h4]; simp)
           obtain ⟨bc, hbc⟩ : ∃ bc, bc = decide (a.cert.l = b.cert.l) := ⟨_, rfl⟩
           obtain ⟨bs, hbs⟩ : ∃ bs, bs = decide (a.signed = b.signed) := ⟨_, rfl⟩
           rw [← hbc] at HE HT
           rw [← hbs] at hsg HT
           clear h0 h1 h2 h3 h4 hbc hbs
           have x0 := bz_x HX.out 0 _ rfl
           have y0 := bz_y HX.out 0 _ rfl
           have x1 := bz_x HX.out 1 _ rfl
           have y1 := bz_y HX.out 1 _ rfl
           have x2 := bz_x HX.out 2 _ rfl
           have y2 := bz_y HX.out 2 _ rfl
           have x3 := bz_x HX.out 3 _ rfl
           have y3 := bz_y HX.out 3 _ rfl
           have x4 := bz_x HX.out 4 _ rfl
           have y4 := bz_y HX.out 4 _ rfl
           have x5 := bz_x HX.out 5 _ rfl
           have y5 := bz_y HX.out 5 _ rfl
           have x6 := bz_x HX.out 6 _ rfl
           have y6 := bz_y HX.out 6 _ rfl
           have x7 := bz_x HX.out 7 _ rfl
           have y7 := bz_y HX.out 7 _ rfl
           have x8 := bz_x HX.out 8 _ rfl
           have y8 := bz_y HX.out 8 _ rfl
           have x9 := bz_x HX.out 9 _ rfl
           have y9 := bz_y HX.out 9 _ rfl
           have x10 := bz_x HX.out 10 _ rfl
           have y10 := bz_y HX.out 10 _ rfl
           have x11 := bz_x HX.out 11 _ rfl
           have y11 := bz_y HX.out 11 _ rfl
           have lx := bz_size HX.out
           go_enter Tryz.func45, Tryz.ntmps45
           go_wp2_with fail
           refine (HE.out _ (bz_low HX.out)).mono ?_
           rintro e w1 ⟨rfl, hs⟩
           have HX := hD (bz_on HX.out hs)
           clear x0 y0 x1 y1 x2 y2 x3 y3 x4 y4 x5 y5 x6 y6 x7 y7 x8 y8 x9 y9 x10 y10 x11 y11 lx hs
           have x0 := bz_x HX.out 0 _ rfl
           have y0 := bz_y HX.out 0 _ rfl
           have x1 := bz_x HX.out 1 _ rfl
           have y1 := bz_y HX.out 1 _ rfl
           have x2 := bz_x HX.out 2 _ rfl
           have y2 := bz_y HX.out 2 _ rfl
           have x3 := bz_x HX.out 3 _ rfl
           have y3 := bz_y HX.out 3 _ rfl
           have x4 := bz_x HX.out 4 _ rfl
           have y4 := bz_y HX.out 4 _ rfl
           have x5 := bz_x HX.out 5 _ rfl
           have y5 := bz_y HX.out 5 _ rfl
           have x6 := bz_x HX.out 6 _ rfl
           have y6 := bz_y HX.out 6 _ rfl
           have x7 := bz_x HX.out 7 _ rfl
           have y7 := bz_y HX.out 7 _ rfl
           have x8 := bz_x HX.out 8 _ rfl
           have y8 := bz_y HX.out 8 _ rfl
           have x9 := bz_x HX.out 9 _ rfl
           have y9 := bz_y HX.out 9 _ rfl
           have x10 := bz_x HX.out 10 _ rfl
           have y10 := bz_y HX.out 10 _ rfl
           have x11 := bz_x HX.out 11 _ rfl
           have y11 := bz_y HX.out 11 _ rfl
           have lx := bz_size HX.out
           cases bc
           · go_wp2_with fail
             go_ret
             exact ret_bl (by rw [HT.out]; rfl) (bz_low HX.out)
           · go_wp2_with fail
             go_ret
             exact ret_bl (by rw [HT.out]; rfl) (bz_low HX.out)
         · have q0 : (a.server == b.server) = true := by simpa using h0
           have q1 : (a.view == b.view) = true := by simpa using h1
           have q2 : (a.length == b.length) = true := by simpa using h2
           have q3 : (a.lockView == b.lockView) = true := by simpa using h3
           have q4 : (a.lock == b.lock) = false := by simpa using h4
           have HF : Hid (sameSt a b = false) := hD (by unfold sameSt; rw [decide_eq_false h4]; simp)
           clear h0 h1 h2 h3 h4 hsg
           have x0 := bz_x HX.out 0 _ rfl
           have y0 := bz_y HX.out 0 _ rfl
           have x1 := bz_x HX.out 1 _ rfl
           have y1 := bz_y HX.out 1 _ rfl
           have x2 := bz_x HX.out 2 _ rfl
           have y2 := bz_y HX.out 2 _ rfl
           have x3 := bz_x HX.out 3 _ rfl
           have y3 := bz_y HX.out 3 _ rfl
           have x4 := bz_x HX.out 4 _ rfl
           have y4 := bz_y HX.out 4 _ rfl
           have x5 := bz_x HX.out 5 _ rfl
           have y5 := bz_y HX.out 5 _ rfl
           have x6 := bz_x HX.out 6 _ rfl
           have y6 := bz_y HX.out 6 _ rfl
           have x7 := bz_x HX.out 7 _ rfl
           have y7 := bz_y HX.out 7 _ rfl
           have x8 := bz_x HX.out 8 _ rfl
           have y8 := bz_y HX.out 8 _ rfl
           have x9 := bz_x HX.out 9 _ rfl
           have y9 := bz_y HX.out 9 _ rfl
           have x10 := bz_x HX.out 10 _ rfl
           have y10 := bz_y HX.out 10 _ rfl
           have x11 := bz_x HX.out 11 _ rfl
           have y11 := bz_y HX.out 11 _ rfl
           have lx := bz_size HX.out
           go_enter Tryz.func45, Tryz.ntmps45
           go_wp2_with fail
           go_ret
           exact ret_bl HF.out (bz_low HX.out)
       · have q0 : (a.server == b.server) = true := by simpa using h0
         have q1 : (a.view == b.view) = true := by simpa using h1
         have q2 : (a.length == b.length) = true := by simpa using h2
         have q3 : (a.lockView == b.lockView) = false := by simpa using h3
         have HF : Hid (sameSt a b = false) := hD (by unfold sameSt; rw [decide_eq_false h3]; simp)
         clear h0 h1 h2 h3 hsg
         have x0 := bz_x HX.out 0 _ rfl
         have y0 := bz_y HX.out 0 _ rfl
         have x1 := bz_x HX.out 1 _ rfl
         have y1 := bz_y HX.out 1 _ rfl
         have x2 := bz_x HX.out 2 _ rfl
         have y2 := bz_y HX.out 2 _ rfl
         have x3 := bz_x HX.out 3 _ rfl
         have y3 := bz_y HX.out 3 _ rfl
         have x4 := bz_x HX.out 4 _ rfl
         have y4 := bz_y HX.out 4 _ rfl
         have x5 := bz_x HX.out 5 _ rfl
         have y5 := bz_y HX.out 5 _ rfl
         have x6 := bz_x HX.out 6 _ rfl
         have y6 := bz_y HX.out 6 _ rfl
         have x7 := bz_x HX.out 7 _ rfl
         have y7 := bz_y HX.out 7 _ rfl
         have x8 := bz_x HX.out 8 _ rfl
         have y8 := bz_y HX.out 8 _ rfl
         have x9 := bz_x HX.out 9 _ rfl
         have y9 := bz_y HX.out 9 _ rfl
         have x10 := bz_x HX.out 10 _ rfl
         have y10 := bz_y HX.out 10 _ rfl
         have x11 := bz_x HX.out 11 _ rfl
         have y11 := bz_y HX.out 11 _ rfl
         have lx := bz_size HX.out
         go_enter Tryz.func45, Tryz.ntmps45
         go_wp2_with fail
         go_ret
         exact ret_bl HF.out (bz_low HX.out)
     · have q0 : (a.server == b.server) = true := by simpa using h0
       have q1 : (a.view == b.view) = true := by simpa using h1
       have q2 : (a.length == b.length) = false := by simpa using h2
       have HF : Hid (sameSt a b = false) := hD (by unfold sameSt; rw [decide_eq_false h2]; simp)
       clear h0 h1 h2 hsg
       have x0 := bz_x HX.out 0 _ rfl
       have y0 := bz_y HX.out 0 _ rfl
       have x1 := bz_x HX.out 1 _ rfl
       have y1 := bz_y HX.out 1 _ rfl
       have x2 := bz_x HX.out 2 _ rfl
       have y2 := bz_y HX.out 2 _ rfl
       have x3 := bz_x HX.out 3 _ rfl
       have y3 := bz_y HX.out 3 _ rfl
       have x4 := bz_x HX.out 4 _ rfl
       have y4 := bz_y HX.out 4 _ rfl
       have x5 := bz_x HX.out 5 _ rfl
       have y5 := bz_y HX.out 5 _ rfl
       have x6 := bz_x HX.out 6 _ rfl
       have y6 := bz_y HX.out 6 _ rfl
       have x7 := bz_x HX.out 7 _ rfl
       have y7 := bz_y HX.out 7 _ rfl
       have x8 := bz_x HX.out 8 _ rfl
       have y8 := bz_y HX.out 8 _ rfl
       have x9 := bz_x HX.out 9 _ rfl
       have y9 := bz_y HX.out 9 _ rfl
       have x10 := bz_x HX.out 10 _ rfl
       have y10 := bz_y HX.out 10 _ rfl
       have x11 := bz_x HX.out 11 _ rfl
       have y11 := bz_y HX.out 11 _ rfl
       have lx := bz_size HX.out
       go_enter Tryz.func45, Tryz.ntmps45
       go_wp2_with fail
       go_ret
       exact ret_bl HF.out (bz_low HX.out)
   · have q0 : (a.server == b.server) = true := by simpa using h0
     have q1 : (a.view == b.view) = false := by simpa using h1
     have HF : Hid (sameSt a b = false) := hD (by unfold sameSt; rw [decide_eq_false h1]; simp)
     clear h0 h1 hsg
     have x0 := bz_x HX.out 0 _ rfl
     have y0 := bz_y HX.out 0 _ rfl
     have x1 := bz_x HX.out 1 _ rfl
     have y1 := bz_y HX.out 1 _ rfl
     have x2 := bz_x HX.out 2 _ rfl
     have y2 := bz_y HX.out 2 _ rfl
     have x3 := bz_x HX.out 3 _ rfl
     have y3 := bz_y HX.out 3 _ rfl
     have x4 := bz_x HX.out 4 _ rfl
     have y4 := bz_y HX.out 4 _ rfl
     have x5 := bz_x HX.out 5 _ rfl
     have y5 := bz_y HX.out 5 _ rfl
     have x6 := bz_x HX.out 6 _ rfl
     have y6 := bz_y HX.out 6 _ rfl
     have x7 := bz_x HX.out 7 _ rfl
     have y7 := bz_y HX.out 7 _ rfl
     have x8 := bz_x HX.out 8 _ rfl
     have y8 := bz_y HX.out 8 _ rfl
     have x9 := bz_x HX.out 9 _ rfl
     have y9 := bz_y HX.out 9 _ rfl
     have x10 := bz_x HX.out 10 _ rfl
     have y10 := bz_y HX.out 10 _ rfl
     have x11 := bz_x HX.out 11 _ rfl
     have y11 := bz_y HX.out 11 _ rfl
     have lx := bz_size HX.out
     go_enter Tryz.func45, Tryz.ntmps45
     go_wp2_with fail
     go_ret
     exact ret_bl HF.out (bz_low HX.out)
 · have q0 : (a.server == b.server) = false := by simpa using h0
   have HF : Hid (sameSt a b = false) := hD (by unfold sameSt; rw [decide_eq_false h0]; simp)
   clear h0 hsg
   have x0 := bz_x HX.out 0 _ rfl
   have y0 := bz_y HX.out 0 _ rfl
   have x1 := bz_x HX.out 1 _ rfl
   have y1 := bz_y HX.out 1 _ rfl
   have x2 := bz_x HX.out 2 _ rfl
   have y2 := bz_y HX.out 2 _ rfl
   have x3 := bz_x HX.out 3 _ rfl
   have y3 := bz_y HX.out 3 _ rfl
   have x4 := bz_x HX.out 4 _ rfl
   have y4 := bz_y HX.out 4 _ rfl
   have x5 := bz_x HX.out 5 _ rfl
   have y5 := bz_y HX.out 5 _ rfl
   have x6 := bz_x HX.out 6 _ rfl
   have y6 := bz_y HX.out 6 _ rfl
   have x7 := bz_x HX.out 7 _ rfl
   have y7 := bz_y HX.out 7 _ rfl
   have x8 := bz_x HX.out 8 _ rfl
   have y8 := bz_y HX.out 8 _ rfl
   have x9 := bz_x HX.out 9 _ rfl
   have y9 := bz_y HX.out 9 _ rfl
   have x10 := bz_x HX.out 10 _ rfl
   have y10 := bz_y HX.out 10 _ rfl
   have x11 := bz_x HX.out 11 _ rfl
   have y11 := bz_y HX.out 11 _ rfl
   have lx := bz_size HX.out
   go_enter Tryz.func45, Tryz.ntmps45
   go_wp2_with fail
   go_ret
   exact ret_bl HF.out (bz_low HX.out)
end Go.Proofs.YtikpcebhcnjkhaaGreatDoor
