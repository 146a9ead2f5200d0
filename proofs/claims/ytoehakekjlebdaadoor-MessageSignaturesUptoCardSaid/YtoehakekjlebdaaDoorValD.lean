/- The contracts of the error that was found, of kinds, of zero snapshots. -/
import Derived.Test.YtoehakekjlebdaaDoorValB
namespace Go.Proofs.YtoehakekjlebdaaDoor
open Go.RowKit

set_option maxHeartbeats 1000000 in
theorem eCk_any (g : Nat) (o t : Bool) (w : World) (hk : Ck w g o t) : Calls Tryd.prog 26 #[.pointer (some ⟨g, 0, none⟩)] w fun e w' => e = .returned (.int .i64 (if o then 7 else if t then 3 else 0)) ∧ w = w' := by
  have k0 := hk.c0
  have k1 := hk.c1
  clear hk
  cases o <;> cases t
  all_goals
    go_enter Tryd.func26, Tryd.ntmps26
    go_wp2_with fail
    go_ret
    exact ⟨rfl, rfl⟩
def RetKind (k : Int) (w : World) (e : Ending) (w' : World) : Prop := e = .returned (.tuple #[.string ⟨(kwS k).toArray⟩, .int .i64 (kwF k)]) ∧ w = w'
theorem kw_none (k : Int) (h : k < 1 ∨ 12 < k) : kwS k = [] ∧ kwF k = 0 := by
  unfold kwS kwF
  refine ⟨?_, ?_⟩ <;> (repeat rw [if_neg (by omega)])
set_option maxRecDepth 100000 in
set_option maxHeartbeats 8000000 in
theorem kind_any (k : Int) (w : World) : Calls Tryd.prog 19 #[.int .i64 k] w (RetKind k w) := by
  by_cases h : k < 1 ∨ 12 < k
  · have HK := Lib.hid (kw_none k h)
    have n1 : (k == 1) = false := by simp; omega
    have n2 : (k == 2) = false := by simp; omega
    have n3 : (k == 3) = false := by simp; omega
    have n4 : (k == 4) = false := by simp; omega
    have n5 : (k == 5) = false := by simp; omega
    have n6 : (k == 6) = false := by simp; omega
    have n7 : (k == 7) = false := by simp; omega
    have n8 : (k == 8) = false := by simp; omega
    have n9 : (k == 9) = false := by simp; omega
    have n10 : (k == 10) = false := by simp; omega
    have n11 : (k == 11) = false := by simp; omega
    have n12 : (k == 12) = false := by simp; omega
    clear h
    go_enter Tryd.func19, Tryd.ntmps19
    go_wp2_with fail
    go_ret2
    exact ⟨by rw [HK.out.1, HK.out.2]; rfl, rfl⟩
  · have h2 : k = 1 ∨ k = 2 ∨ k = 3 ∨ k = 4 ∨ k = 5 ∨ k = 6 ∨ k = 7 ∨ k = 8 ∨ k = 9 ∨ k = 10 ∨ k = 11 ∨ k = 12 := by omega
    clear h
    rcases h2 with rfl | rfl | rfl | rfl | rfl | rfl | rfl | rfl | rfl | rfl | rfl | rfl
    all_goals
      go_enter Tryd.func19, Tryd.ntmps19
      go_wp2_with fail
      go_ret2
      exact ⟨rfl, rfl⟩
set_option maxRecDepth 100000 in
set_option maxHeartbeats 4000000 in
theorem empty_any (x : Sn) (w : World) (h1 : x.chunks.l.length ≤ 1099511627776) (h2 : x.proof.l.length ≤ 1099511627776) (h3 : x.chain.l.length ≤ 1099511627776) :
    Calls Tryd.prog 43 #[.agg #[.int .i64 x.slot, .string ⟨x.root.toArray⟩, .slice x.chunks.a x.chunks.l.length x.chunks.c, .slice x.proof.a x.proof.l.length x.proof.c, .slice x.chain.a x.chain.l.length x.chain.c]] w (RetBool (emptySn x) w) := by
  by_cases c1 : x.slot = 0
  · have d1 : (x.slot == 0) = true := by simp [c1]
    by_cases c2 : x.root = []
    · have HZ : Hid (((x.chunks.l.length : Int) + x.proof.l.length + x.chain.l.length == 0) = emptySn x) := Lib.hid (by
        show _ = (decide (x.slot = 0) && decide (x.root = []) && decide (x.chunks.l.length + x.proof.l.length + x.chain.l.length = 0))
        rw [decide_eq_true c1, decide_eq_true c2, Bool.true_and, Bool.true_and, Bool.eq_iff_iff, beq_iff_eq, decide_eq_true_eq]; omega)
      have HC1 := Lib.hid c1
      clear c1
      go_enter Tryd.func43, Tryd.ntmps43
      go_wp2_with fail
      go_ret
      exact ret_bl HZ.out.symm (below_new _ _)
    · have HZ : Hid (emptySn x = false) := Lib.hid (by simp [emptySn, c2])
      have HC1 := Lib.hid c1
      clear c1
      go_enter Tryd.func43, Tryd.ntmps43
      go_wp2_with fail
      go_ret
      exact ret_bl HZ.out (below_new _ _)
  · have HZ : Hid (emptySn x = false) := Lib.hid (by simp [emptySn, c1])
    have d1 : (x.slot == 0) = false := by simp [c1]
    go_enter Tryd.func43, Tryd.ntmps43
    go_wp2_with fail
    go_ret
    exact ret_bl HZ.out (below_new _ _)
end Go.Proofs.YtoehakekjlebdaaDoor
