/- ContainsFunc at statuses. -/
import Derived.Test.YtikpcebhcnjkhaaGreatDoorSPl
import Derived.Test.YtikpcebhcnjkhaaGreatDoorSAdvSm
namespace Go.Proofs.YtikpcebhcnjkhaaGreatDoor
open Go.RowKit
set_option maxRecDepth 100000 in
set_option maxHeartbeats 2000000 in
theorem see2_any (x y : St) (bx : Nat) (w : World) (hx : Vz w bx (stC x)) (ox : x.ok w) (oy : y.ok w) (sx : x.cert.l.length ≤ 16777216) (sy : y.cert.l.length ≤ 16777216) : Calls Tryz.prog 44 #[.agg #[.int .i64 y.server, .int .i64 y.view, .int .i64 y.length, .int .i64 y.lockView, .string ⟨y.lock.toArray⟩, .slice y.cert.a y.cert.l.length y.cert.c, .int .i64 y.signed.server, .int .i64 y.signed.kind, .int .i64 y.signed.view, .int .i64 y.signed.slot, .string ⟨y.signed.digest.toArray⟩, .string ⟨y.signed.sig.toArray⟩], .pointer (some ⟨bx, 0, none⟩)] w (RetBool (sameSt x y) w) := by
 have HX : Hid (Vz (w.alloc (.cells #[.int .i64 y.server, .int .i64 y.view, .int .i64 y.length, .int .i64 y.lockView, .string ⟨y.lock.toArray⟩, .slice y.cert.a y.cert.l.length y.cert.c, .int .i64 y.signed.server, .int .i64 y.signed.kind, .int .i64 y.signed.view, .int .i64 y.signed.slot, .string ⟨y.signed.digest.toArray⟩, .string ⟨y.signed.sig.toArray⟩] 62)) bx [.int .i64 x.server, .int .i64 x.view, .int .i64 x.length, .int .i64 x.lockView, .string ⟨x.lock.toArray⟩, .slice x.cert.a x.cert.l.length x.cert.c, .int .i64 x.signed.server, .int .i64 x.signed.kind, .int .i64 x.signed.view, .int .i64 x.signed.slot, .string ⟨x.signed.digest.toArray⟩, .string ⟨x.signed.sig.toArray⟩]) := hD (hx.below (below_new _ _))
 have HY : Hid (Vz (w.alloc (.cells #[.int .i64 y.server, .int .i64 y.view, .int .i64 y.length, .int .i64 y.lockView, .string ⟨y.lock.toArray⟩, .slice y.cert.a y.cert.l.length y.cert.c, .int .i64 y.signed.server, .int .i64 y.signed.kind, .int .i64 y.signed.view, .int .i64 y.signed.slot, .string ⟨y.signed.digest.toArray⟩, .string ⟨y.signed.sig.toArray⟩] 62)) w.heap.size [.int .i64 y.server, .int .i64 y.view, .int .i64 y.length, .int .i64 y.lockView, .string ⟨y.lock.toArray⟩, .slice y.cert.a y.cert.l.length y.cert.c, .int .i64 y.signed.server, .int .i64 y.signed.kind, .int .i64 y.signed.view, .int .i64 y.signed.slot, .string ⟨y.signed.digest.toArray⟩, .string ⟨y.signed.sig.toArray⟩]) := hD (Vz.new w [.int .i64 y.server, .int .i64 y.view, .int .i64 y.length, .int .i64 y.lockView, .string ⟨y.lock.toArray⟩, .slice y.cert.a y.cert.l.length y.cert.c, .int .i64 y.signed.server, .int .i64 y.signed.kind, .int .i64 y.signed.view, .int .i64 y.signed.slot, .string ⟨y.signed.digest.toArray⟩, .string ⟨y.signed.sig.toArray⟩] 62)
 have HB := hD (below_new w (.cells #[.int .i64 y.server, .int .i64 y.view, .int .i64 y.length, .int .i64 y.lockView, .string ⟨y.lock.toArray⟩, .slice y.cert.a y.cert.l.length y.cert.c, .int .i64 y.signed.server, .int .i64 y.signed.kind, .int .i64 y.signed.view, .int .i64 y.signed.slot, .string ⟨y.signed.digest.toArray⟩, .string ⟨y.signed.sig.toArray⟩] 62))
 have HC : Hid (∀ W, Below w.heap.size w W → Calls Tryz.prog 45 #[.agg #[.int .i64 x.server, .int .i64 x.view, .int .i64 x.length, .int .i64 x.lockView, .string ⟨x.lock.toArray⟩, .slice x.cert.a x.cert.l.length x.cert.c, .int .i64 x.signed.server, .int .i64 x.signed.kind, .int .i64 x.signed.view, .int .i64 x.signed.slot, .string ⟨x.signed.digest.toArray⟩, .string ⟨x.signed.sig.toArray⟩], .agg #[.int .i64 y.server, .int .i64 y.view, .int .i64 y.length, .int .i64 y.lockView, .string ⟨y.lock.toArray⟩, .slice y.cert.a y.cert.l.length y.cert.c, .int .i64 y.signed.server, .int .i64 y.signed.kind, .int .i64 y.signed.view, .int .i64 y.signed.slot, .string ⟨y.signed.digest.toArray⟩, .string ⟨y.signed.sig.toArray⟩]] W (RetBool (sameSt x y) W)) := hD (fun W h => same_any x y W (St.below ox h) (St.below oy h) sx sy)
 have x0 := HX.out.cells 0 _ rfl
 have y0 := HY.out.cells 0 _ rfl
 have x1 := HX.out.cells 1 _ rfl
 have y1 := HY.out.cells 1 _ rfl
 have x2 := HX.out.cells 2 _ rfl
 have y2 := HY.out.cells 2 _ rfl
 have x3 := HX.out.cells 3 _ rfl
 have y3 := HY.out.cells 3 _ rfl
 have x4 := HX.out.cells 4 _ rfl
 have y4 := HY.out.cells 4 _ rfl
 have x5 := HX.out.cells 5 _ rfl
 have y5 := HY.out.cells 5 _ rfl
 have x6 := HX.out.cells 6 _ rfl
 have y6 := HY.out.cells 6 _ rfl
 have x7 := HX.out.cells 7 _ rfl
 have y7 := HY.out.cells 7 _ rfl
 have x8 := HX.out.cells 8 _ rfl
 have y8 := HY.out.cells 8 _ rfl
 have x9 := HX.out.cells 9 _ rfl
 have y9 := HY.out.cells 9 _ rfl
 have x10 := HX.out.cells 10 _ rfl
 have y10 := HY.out.cells 10 _ rfl
 have x11 := HX.out.cells 11 _ rfl
 have y11 := HY.out.cells 11 _ rfl
 have lx := HX.out.lt
 have ly := HY.out.lt
 clear hx ox oy sx sy
 go_enter Tryz.func44, Tryz.ntmps44
 go_wp2_with fail
 refine (HC.out _ HB.out).mono ?_
 rintro e w2 ⟨rfl, hb⟩
 have HL := hD (bon HB.out hb)
 clear x0 y0 x1 y1 x2 y2 x3 y3 x4 y4 x5 y5 x6 y6 x7 y7 x8 y8 x9 y9 x10 y10 x11 y11 lx ly hb
 go_wp2_with fail
 go_ret
 exact ret_bl rfl HL.out
theorem stC_len (x : St) : (stC x).length = 12 := rfl
theorem any_succ {α : Type} (l : List α) (p : α → Bool) (k : Nat) (h : k < l.length) : (l.take (k + 1)).any p = ((l.take k).any p || p l[k]) := by
 rw [List.take_succ_eq_append_getElem h, List.any_append]; simp
set_option maxRecDepth 100000 in
set_option maxHeartbeats 4000000 in
theorem ixSt_any (x : St) (bx : Nat) (A : Option Addr) (c : Nat) (l : List St) (w : World) (hx : Vz w bx (stC x)) (ox : x.ok w) (sx : x.cert.l.length ≤ 16777216) (hr : Rd w 12 A l.length (l.flatMap stC)) (ho : ∀ y ∈ l, y.ok w) (hs : ∀ y ∈ l, y.cert.l.length ≤ 16777216) (hn : l.length ≤ 1099511627776) :
    Calls Tryz.prog 71 #[.slice A l.length c, .func (.func 44) #[] #[.pointer (some ⟨bx, 0, none⟩)]] w fun e w' => (∃ i : Int, e = .returned (.int .i64 i) ∧ decide (0 ≤ i) = l.any (sameSt x)) ∧ Below w.heap.size w w' := by
 have HR := hD hr
 have HCl : Hid (∀ y ∈ l, ∀ W, Below w.heap.size w W → Calls Tryz.prog 44 #[.agg #[.int .i64 y.server, .int .i64 y.view, .int .i64 y.length, .int .i64 y.lockView, .string ⟨y.lock.toArray⟩, .slice y.cert.a y.cert.l.length y.cert.c, .int .i64 y.signed.server, .int .i64 y.signed.kind, .int .i64 y.signed.view, .int .i64 y.signed.slot, .string ⟨y.signed.digest.toArray⟩, .string ⟨y.signed.sig.toArray⟩], .pointer (some ⟨bx, 0, none⟩)] W (RetBool (sameSt x y) W)) := hD (fun y hy W hb => see2_any x y bx W (hx.below hb) (St.below ox hb) (St.below (ho y hy) hb) sx (hs y hy))
 clear hr hx ox ho hs
 go_enter Tryz.func71, Tryz.ntmps71
 go_wp2_with fail
 go_loopw [8] (fun i wr => ∃ k : Nat, i = .int .i64 k ∧ k ≤ l.length ∧ (l.take k).any (sameSt x) = false ∧ Below w.heap.size w wr) (fun i _ => l.length - (intOf i).toNat)
 case atStart => exact ⟨0, rfl, by omega, by simp, Below.refl _ _⟩
 case round =>
  obtain ⟨k, rfl, hk, hm, hb⟩ := hrel
  have HM := hD hm
  have HB := hD hb
  clear hm hb
  by_cases hlt : k < l.length
  · have i0' : (0 : Int) ≤ (k : Int) := by omega
    have i1 : (k : Int) < (l.length : Int) := by omega
    obtain ⟨b, off, rfl, hg, hcc⟩ := Rd.at HR.out stC_len (by decide) hlt
    have HS := hD (any_succ l (sameSt x) k hlt)
    have HC := hD (HCl.out l[k] (List.getElem_mem hlt) wr HB.out)
    have hin := List.getElem_mem hlt
    obtain ⟨y, hy⟩ : ∃ y, y = l[k] := ⟨_, rfl⟩
    have hc9 := hcc wr HB.out
    rw [← hy] at hc9 HC HS hin
    have c0 : wr.cell? ⟨b, off + k * 12, none⟩ = some (.int .i64 y.server) := hc9 0 _ rfl
    have c1 : wr.cell? ⟨b, off + k * 12 + 1, none⟩ = some (.int .i64 y.view) := hc9 1 _ rfl
    have c2 : wr.cell? ⟨b, off + k * 12 + 2, none⟩ = some (.int .i64 y.length) := hc9 2 _ rfl
    have c3 : wr.cell? ⟨b, off + k * 12 + 3, none⟩ = some (.int .i64 y.lockView) := hc9 3 _ rfl
    have c4 : wr.cell? ⟨b, off + k * 12 + 4, none⟩ = some (.string ⟨y.lock.toArray⟩) := hc9 4 _ rfl
    have c5 : wr.cell? ⟨b, off + k * 12 + 5, none⟩ = some (.slice y.cert.a y.cert.l.length y.cert.c) := hc9 5 _ rfl
    have c6 : wr.cell? ⟨b, off + k * 12 + 6, none⟩ = some (.int .i64 y.signed.server) := hc9 6 _ rfl
    have c7 : wr.cell? ⟨b, off + k * 12 + 7, none⟩ = some (.int .i64 y.signed.kind) := hc9 7 _ rfl
    have c8 : wr.cell? ⟨b, off + k * 12 + 8, none⟩ = some (.int .i64 y.signed.view) := hc9 8 _ rfl
    have c9 : wr.cell? ⟨b, off + k * 12 + 9, none⟩ = some (.int .i64 y.signed.slot) := hc9 9 _ rfl
    have c10 : wr.cell? ⟨b, off + k * 12 + 10, none⟩ = some (.string ⟨y.signed.digest.toArray⟩) := hc9 10 _ rfl
    have c11 : wr.cell? ⟨b, off + k * 12 + 11, none⟩ = some (.string ⟨y.signed.sig.toArray⟩) := hc9 11 _ rfl
    have hgl : b < wr.heap.size := Nat.lt_of_lt_of_le hg HB.out.size
    have HIn := hD hin
    have HL := hD hlt
    clear hcc hc9 hy hg hin
    go_wp2_with fail
    refine HC.out.mono ?_
    rintro e w2 ⟨rfl, hs⟩
    have HB2 := hD (bon HB.out hs)
    clear c0 c1 c2 c3 c4 c5 c6 c7 c8 c9 c10 c11 hgl hs
    cases hq : sameSt x y
    · have HF : Hid ((l.take (k + 1)).any (sameSt x) = false) := hD (by rw [HS.out, HM.out, hq]; rfl)
      clear hq
      go_wp2_with fail
      go_roundw
      case rel => exact ⟨k + 1, by go_num, by omega, HF.out, HB2.out⟩
      case measure => simp [intOf]; omega
    · have HF : Hid (decide ((0 : Int) ≤ (k : Int)) = l.any (sameSt x)) := hD (by
        rw [decide_eq_true i0']
        exact (List.any_eq_true.2 ⟨y, HIn.out, hq⟩).symm)
      clear hq
      go_wp2_with fail
      go_ret
      exact ⟨⟨_, rfl, HF.out⟩, HB2.out⟩
  · obtain rfl : k = l.length := by omega
    have HF : Hid (decide ((0 : Int) ≤ -1) = l.any (sameSt x)) := hD (by
     have h1 := HM.out
     rw [List.take_length] at h1
     rw [h1]; decide)
    go_wp2_with fail
    go_ret
    exact ⟨⟨_, rfl, HF.out⟩, HB.out⟩
set_option maxRecDepth 100000 in
set_option maxHeartbeats 2000000 in
theorem hasSt_any (x : St) (bx : Nat) (A : Option Addr) (c : Nat) (l : List St) (w : World) (hx : Vz w bx (stC x)) (ox : x.ok w) (sx : x.cert.l.length ≤ 16777216) (hr : Rd w 12 A l.length (l.flatMap stC)) (ho : ∀ y ∈ l, y.ok w) (hs : ∀ y ∈ l, y.cert.l.length ≤ 16777216) (hn : l.length ≤ 1099511627776) :
    Calls Tryz.prog 43 #[.slice A l.length c, .func (.func 44) #[] #[.pointer (some ⟨bx, 0, none⟩)]] w (RetBool (l.any (sameSt x)) w) := by
 have HC := hD (ixSt_any x bx A c l w hx ox sx hr ho hs hn)
 clear hx ox sx hr ho hs hn
 go_enter Tryz.func43, Tryz.ntmps43
 go_wp2_with fail
 refine HC.out.mono ?_
 rintro e w2 ⟨⟨i, rfl, hi⟩, hb⟩
 go_wp2_with fail
 go_ret
 exact ⟨ret_bool (by first | exact hi | (rw [← hi]; done) | (rw [← hi]; simp)), hb⟩
end Go.Proofs.YtikpcebhcnjkhaaGreatDoor
