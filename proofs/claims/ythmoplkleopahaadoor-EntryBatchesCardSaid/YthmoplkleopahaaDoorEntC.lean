/- The contracts of entry.Valid, value, Encode, Noop. -/
import Derived.Test.YthmoplkleopahaaDoorEntB
import Derived.Deep.RegionHeld3
namespace Go.Proofs.YthmoplkleopahaaDoor
open Go.RowKit

/-- requests in memory -/
structure RqIn (w : World) (A : Option Addr) (c : Nat) (l : List Rq) : Prop where
  rd : Rd w 3 A l.length (l.flatMap rqC)
  cap : l.length ≤ c
  big : c ≤ 9223372036854775807
  few : l.length ≤ 9223372036854775807
  op : ∀ r ∈ l, r.op.length ≤ 9223372036854775807
theorem RqIn.below {w w' : World} {A : Option Addr} {c : Nat} {l : List Rq} (h : RqIn w A c l) (hb : Below w.heap.size w w') : RqIn w' A c l := { h with rd := h.rd.below hb }
theorem vEn_join (cfg : Int) (rs : List Rq) : vEn ⟨2, cfg, rs⟩ = if cfg < 0 ∨ 6 ≤ cfg ∨ rs ≠ [] then 1 else 0 := by
  simp only [vEn]; rw [if_neg (by decide), if_pos trivial]
theorem vEn_finish (cfg : Int) (rs : List Rq) : vEn ⟨3, cfg, rs⟩ = if cfg ≠ 0 ∨ rs ≠ [] then 1 else 0 := by
  simp only [vEn]; rw [if_neg (by decide), if_neg (by decide), if_pos trivial]
theorem vEn_batch (cfg : Int) (rs : List Rq) : vEn ⟨1, cfg, rs⟩ = if cfg ≠ 0 then 1 else if 8 < rs.length then 3 else vRqs [] rs := by
  simp only [vEn]; rw [if_pos trivial]
theorem vEn_other (kind cfg : Int) (rs : List Rq) (h1 : kind ≠ 1) (h2 : kind ≠ 2) (h3 : kind ≠ 3) : vEn ⟨kind, cfg, rs⟩ = 1 := by
  simp only [vEn]; rw [if_neg h1, if_neg h2, if_neg h3]
theorem pos_of_ne {α : Type} {l : List α} (h : l ≠ []) : (0 : Int) < (l.length : Int) := by
  have := List.length_pos_iff.2 h
  omega
set_option maxRecDepth 100000 in
set_option maxHeartbeats 4000000 in
theorem enValid_any (kind cfg : Int) (rs : List Rq) (A : Option Addr) (c : Nat) (w : World) (h : RqIn w A c rs) :
    Calls Tryd.prog 15 #[.agg #[.int .i64 kind, .int .i64 cfg, .slice A rs.length c]] w (RetErr (vEn ⟨kind, cfg, rs⟩) w) := by
  have hlen := h.few
  have B0 := Lib.hid (below_new w (.cells #[.int .i64 kind, .int .i64 cfg, .slice A rs.length c] 24))
  have HV := Lib.hid (h.below B0.out)
  have HC := Lib.hid (valid_any A c rs _ HV.out.rd HV.out.cap HV.out.big HV.out.few HV.out.op)
  clear h
  by_cases k1 : kind = 1
  · subst k1
    by_cases c0 : cfg = 0
    · subst c0
      by_cases l8 : 8 < rs.length
      · have HY : Hid (vEn ⟨1, 0, rs⟩ = 3) := Lib.hid (by rw [vEn_batch, if_neg (by decide), if_pos l8])
        have l8' : (8 : Int) < (rs.length : Int) := by omega
        clear l8
        go_enter Tryd.func15, Tryd.ntmps15
        go_wp2_with fail
        go_ret
        exact ret_er HY.out B0.out
      · have HY : Hid (vEn ⟨1, 0, rs⟩ = vRqs [] rs) := Lib.hid (by rw [vEn_batch, if_neg (by decide), if_neg l8])
        have l8' : ¬ (8 : Int) < (rs.length : Int) := by omega
        clear l8
        go_enter Tryd.func15, Tryd.ntmps15
        go_wp2_with fail
        refine HC.out.mono ?_
        rintro e w' ⟨rfl, hb⟩
        go_wp2_with fail
        go_ret
        exact ret_er HY.out (bon B0.out hb)
    · have HY : Hid (vEn ⟨1, cfg, rs⟩ = 1) := Lib.hid (by rw [vEn_batch, if_pos c0])
      have c1 : (cfg == 0) = false := by simpa using c0
      have c2 : (cfg != 0) = true := by simpa using c0
      clear c0
      go_enter Tryd.func15, Tryd.ntmps15
      go_wp2_with fail
      go_ret
      exact ret_er HY.out B0.out
  · by_cases k2 : kind = 2
    · subst k2
      clear k1
      by_cases hbad : cfg < 0 ∨ 6 ≤ cfg ∨ rs ≠ []
      · have HY : Hid (vEn ⟨2, cfg, rs⟩ = 1) := Lib.hid (by rw [vEn_join, if_pos hbad])
        have hbad' : cfg < 0 ∨ 6 ≤ cfg ∨ (0 : Int) < (rs.length : Int) := by
          rcases hbad with h | h | h
          · exact .inl h
          · exact .inr (.inl h)
          · exact .inr (.inr (pos_of_ne h))
        clear hbad
        rcases hbad' with h | h | h
        all_goals
          go_enter Tryd.func15, Tryd.ntmps15
          go_wp2_with fail
          all_goals
            go_ret
            exact ret_er HY.out B0.out
      · have HY : Hid (vEn ⟨2, cfg, rs⟩ = 0) := Lib.hid (by rw [vEn_join, if_neg hbad])
        have q0 : ¬ cfg < 0 := fun h => hbad (.inl h)
        have q1 : ¬ 6 ≤ cfg := fun h => hbad (.inr (.inl h))
        have q2 : ¬ (0 : Int) < (rs.length : Int) := fun h => hbad (.inr (.inr (by intro h0; subst h0; simp at h)))
        clear hbad
        go_enter Tryd.func15, Tryd.ntmps15
        go_wp2_with fail
        go_ret
        exact ret_er HY.out B0.out
    · by_cases k3 : kind = 3
      · subst k3
        clear k1 k2
        by_cases c0 : cfg = 0
        · subst c0
          by_cases hr : rs = []
          · have HY : Hid (vEn ⟨3, 0, rs⟩ = 0) := Lib.hid (by rw [vEn_finish, if_neg (by simp [hr])])
            have q2 : ¬ (0 : Int) < (rs.length : Int) := by rw [hr]; simp
            clear hr
            go_enter Tryd.func15, Tryd.ntmps15
            go_wp2_with fail
            go_ret
            exact ret_er HY.out B0.out
          · have HY : Hid (vEn ⟨3, 0, rs⟩ = 1) := Lib.hid (by rw [vEn_finish, if_pos (.inr hr)])
            have q2 := pos_of_ne hr
            clear hr
            go_enter Tryd.func15, Tryd.ntmps15
            go_wp2_with fail
            go_ret
            exact ret_er HY.out B0.out
        · have HY : Hid (vEn ⟨3, cfg, rs⟩ = 1) := Lib.hid (by rw [vEn_finish, if_pos (.inl c0)])
          have c1 : (cfg == 0) = false := by simpa using c0
          have c2 : (cfg != 0) = true := by simpa using c0
          clear c0
          go_enter Tryd.func15, Tryd.ntmps15
          go_wp2_with fail
          go_ret
          exact ret_er HY.out B0.out
      · have HY : Hid (vEn ⟨kind, cfg, rs⟩ = 1) := Lib.hid (vEn_other kind cfg rs k1 k2 k3)
        have q1 : (kind == 1) = false := by simpa using k1
        have q2 : (kind == 2) = false := by simpa using k2
        have q3 : (kind == 3) = false := by simpa using k3
        clear k1 k2 k3
        go_enter Tryd.func15, Tryd.ntmps15
        go_wp2_with fail
        go_ret
        exact ret_er HY.out B0.out
end Go.Proofs.YthmoplkleopahaaDoor
