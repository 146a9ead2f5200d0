/- The contracts of the reference's value, Valid, Encode. -/
import Derived.Test.YthmoplkleopahaaDoorRefE
import Derived.Test.YthmoplkleopahaaDoorEntJ
namespace Go.Proofs.YthmoplkleopahaaDoor
open Go.RowKit

set_option maxRecDepth 100000 in
set_option maxHeartbeats 1000000 in
theorem refValue_join (cfg : Int) (rs : List Rq) (A : Option Addr) (c : Nat) (w : World) (h0 : 0 ≤ cfg) (h1 : cfg < 10000000) :
    Calls Tryd.prog 32 #[.agg #[.int .i64 2, .int .i64 cfg, .slice A rs.length c]] w (RetStr (valE ⟨2, cfg, rs⟩) w) := by
  have B0 := Lib.hid (below_new w (.cells #[.int .i64 2, .int .i64 cfg, .slice A rs.length c] 24))
  have HI := Lib.hid (digits_any cfg h0 (by omega) (w.alloc (.cells #[.int .i64 2, .int .i64 cfg, .slice A rs.length c] 24)))
  have hl := itoa_len cfg h0 h1
  have HP : Hid (∀ (w1 : World), Calls Tryd.prog 46 #[.slice (some ⟨w1.heap.size, 0, none⟩) 2 2] (w1.alloc (.cells #[.string ⟨#[106, 111, 105, 110]⟩, .string ⟨(Lib.itoa cfg).toArray⟩] 9)) (RetStr (valE ⟨2, cfg, rs⟩) (w1.alloc (.cells #[.string ⟨#[106, 111, 105, 110]⟩, .string ⟨(Lib.itoa cfg).toArray⟩] 9)))) := Lib.hid (fun w1 => by
    have h := refList_any (some ⟨w1.heap.size, 0, none⟩) 2 [wJoin, Lib.itoa cfg] _ (rd_new w1 1 2 (strC [wJoin, Lib.itoa cfg]) 9 rfl) (by simp) (fun x hx => by
      simp only [List.mem_cons, List.not_mem_nil, or_false] at hx
      rcases hx with rfl | rfl
      · simp [wJoin]
      · omega)
    unfold valE
    rw [strs_join]
    exact h)
  clear hl
  go_enter Tryd.func32, Tryd.ntmps32
  go_wp2_with fail
  refine HI.out.mono ?_
  rintro e w1 ⟨rfl, b1⟩
  have B1 := Lib.hid (bon B0.out b1)
  clear b1
  go_wp2_with fail
  refine (HP.out _).mono ?_
  rintro e w2 ⟨rfl, b2⟩
  go_wp2_with fail
  go_ret
  exact ret_st rfl (bon (B1.out.alloc B1.out.size _) b2)
set_option maxRecDepth 100000 in
set_option maxHeartbeats 1000000 in
theorem refValue_finish (cfg : Int) (rs : List Rq) (A : Option Addr) (c : Nat) (w : World) :
    Calls Tryd.prog 32 #[.agg #[.int .i64 3, .int .i64 cfg, .slice A rs.length c]] w (RetStr (valE ⟨3, cfg, rs⟩) w) := by
  have B0 := Lib.hid (below_new w (.cells #[.int .i64 3, .int .i64 cfg, .slice A rs.length c] 24))
  have HP : Hid (∀ (w1 : World) (g : Nat), w1.heap.size = g → Calls Tryd.prog 46 #[.slice (some ⟨g, 0, none⟩) 1 1] (w1.alloc (.cells #[.string ⟨#[102, 105, 110, 105, 115, 104]⟩] 9)) (RetStr (valE ⟨3, cfg, rs⟩) (w1.alloc (.cells #[.string ⟨#[102, 105, 110, 105, 115, 104]⟩] 9)))) := Lib.hid (fun w1 g hg => by
    subst hg
    have h := refList_any (some ⟨w1.heap.size, 0, none⟩) 1 [wFinish] _ (rd_new w1 1 1 (strC [wFinish]) 9 rfl) (by simp) (by simp [wFinish])
    unfold valE
    rw [strs_finish]
    exact h)
  go_enter Tryd.func32, Tryd.ntmps32
  go_wp2_with fail
  refine (HP.out _ _ (by simp)).mono ?_
  rintro e w2 ⟨rfl, b2⟩
  go_wp2_with fail
  go_ret
  exact ret_st rfl (bon (B0.out.alloc (by simp) _) b2)
theorem refValue_any (kind cfg : Int) (rs : List Rq) (A : Option Addr) (c : Nat) (w : World) (h : RqIn w A c rs) (hv : vEn ⟨kind, cfg, rs⟩ = 0) :
    Calls Tryd.prog 32 #[.agg #[.int .i64 kind, .int .i64 cfg, .slice A rs.length c]] w (RetStr (valE ⟨kind, cfg, rs⟩) w) := by
  rcases vEn_kind _ hv with ⟨h1, h2, h3, h4⟩ | ⟨h1, h2, h3, h4⟩ | ⟨h1, h2, h3⟩
  · simp only at h1 h2 h3 h4
    subst h1 h2
    exact refValue_batch 1 0 rs A c w h (by omega) h4 (by decide) (by decide)
  · simp only at h1 h2 h3 h4
    subst h1
    exact refValue_join cfg rs A c w h2 (by omega)
  · simp only at h1 h2 h3
    subst h1 h2
    exact refValue_finish 0 rs A c w
theorem enCells (w : World) (k c : Int) (v : Value) : Bx w [.int .i64 k, .int .i64 c, v] 24 (w.alloc (.cells #[.int .i64 k, .int .i64 c, v] 24)) := bx_new w [.int .i64 k, .int .i64 c, v] 24
set_option maxRecDepth 100000 in
set_option maxHeartbeats 1000000 in
theorem refValid_bad (kind cfg : Int) (rs : List Rq) (A : Option Addr) (c : Nat) (w : World) (hlen : rs.length ≤ 9223372036854775807) (h : vEn ⟨kind, cfg, rs⟩ = 1) :
    Calls Tryd.prog 16 #[.agg #[.int .i64 kind, .int .i64 cfg, .slice A rs.length c]] w (RetErr 1 w) := by
  have B0 := Lib.hid (bx_low (enCells w kind cfg (.slice A rs.length c)))
  by_cases k1 : kind = 1
  · subst k1
    have c0 : cfg ≠ 0 := by
      intro hc
      subst hc
      rw [vEn_batch, if_neg (by decide)] at h
      split at h
      · simp at h
      · have hw : ∀ (l d : List Rq), vRqs d l ≠ 1 := by
          intro l
          induction l with
          | nil => intro d; simp [vRqs]
          | cons r t ih =>
            intro d
            rw [vRqs]
            split
            · exact ih _
            · unfold vRq
              split
              · simp
              · split
                · simp
                · split
                  · simp
                  · split <;> simp
        exact hw _ _ h
    have c1 : (cfg == 0) = false := by simpa using c0
    have c2 : (cfg != 0) = true := by simpa using c0
    clear c0 h
    go_enter Tryd.func16, Tryd.ntmps16
    go_wp2_with fail
    go_ret
    exact ret_er rfl B0.out
  · have q1 : (kind == 1) = false := by simpa using k1
    by_cases k2 : kind = 2
    · subst k2
      have hb : cfg < 0 ∨ 6 ≤ cfg ∨ (0 : Int) < (rs.length : Int) := by
        rw [vEn_join] at h
        split at h
        · rename_i hx
          rcases hx with h | h | h
          · exact .inl h
          · exact .inr (.inl h)
          · exact .inr (.inr (pos_of_ne h))
        · simp at h
      clear h k1
      rcases hb with h | h | h
      all_goals
        go_enter Tryd.func16, Tryd.ntmps16
        go_wp2_with fail
        all_goals
          go_ret
          exact ret_er rfl B0.out
    · have q2 : (kind == 2) = false := by simpa using k2
      by_cases k3 : kind = 3
      · subst k3
        have hb : ((cfg == 0) = false ∧ (cfg != 0) = true) ∨ (cfg = 0 ∧ (0 : Int) < (rs.length : Int)) := by
          rw [vEn_finish] at h
          by_cases hc : cfg = 0
          · subst hc
            right
            refine ⟨rfl, ?_⟩
            split at h
            · rename_i hx
              rcases hx with hx | hx
              · exact absurd rfl hx
              · exact pos_of_ne hx
            · simp at h
          · left; exact ⟨by simpa using hc, by simpa using hc⟩
        clear h k1 k2
        rcases hb with ⟨c1, c2⟩ | ⟨rfl, hp⟩
        all_goals
          go_enter Tryd.func16, Tryd.ntmps16
          go_wp2_with fail
          all_goals
            go_ret
            exact ret_er rfl B0.out
      · have q3 : (kind == 3) = false := by simpa using k3
        have q4 : (kind != 3) = true := by simpa using k3
        clear h k1 k2 k3
        go_enter Tryd.func16, Tryd.ntmps16
        go_wp2_with fail
        go_ret
        exact ret_er rfl B0.out
end Go.Proofs.YthmoplkleopahaaDoor
