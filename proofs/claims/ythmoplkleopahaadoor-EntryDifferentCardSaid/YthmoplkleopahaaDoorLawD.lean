/- The law on different values. -/
import Derived.Test.YthmoplkleopahaaDoorLawC
namespace Go.Proofs.YthmoplkleopahaaDoor
open Go.RowKit

theorem enEq_val (k c : Int) (l : List Rq) (k' c' : Int) (m : List Rq) (h : vEn ⟨k, c, l⟩ = 0) (h' : vEn ⟨k', c', m⟩ = 0) : enEq k c l k' c' m = decide (valE ⟨k, c, l⟩ = valE ⟨k', c', m⟩) := by
  by_cases hv : valE ⟨k, c, l⟩ = valE ⟨k', c', m⟩
  · have h1 : (⟨k, c, l⟩ : En) = ⟨k', c', m⟩ := right_one (s := valE ⟨k', c', m⟩) ⟨h, hv⟩ ⟨h', rfl⟩
    injection h1 with e1 e2 e3
    subst e1 e2 e3
    rw [enEq_self]; simp
  · rw [decide_eq_false hv]
    cases hq : enEq k c l k' c' m with
    | false => rfl
    | true =>
      exfalso
      simp only [enEq, Bool.and_eq_true, beq_iff_eq, decide_eq_true_eq] at hq
      obtain ⟨⟨rfl, rfl⟩, rfl⟩ := hq
      exact hv rfl
set_option maxRecDepth 100000 in
set_option maxHeartbeats 2000000 in
theorem lawDifferent (k cf : Int) (l : List Rq) (A : Option Addr) (c : Nat) (k' cf' : Int) (m : List Rq) (B : Option Addr) (d : Nat) (w : World) (he : Env w) (h : RqIn w A c l) (hi : I64 cf) (hr : ∀ r ∈ l, I64 r.client ∧ I64 r.number) (h' : RqIn w B d m) (hi' : I64 cf') (hr' : ∀ r ∈ m, I64 r.client ∧ I64 r.number) :
    Calls Tryd.prog 7 #[.agg #[.int .i64 k, .int .i64 cf, .slice A l.length c], .agg #[.int .i64 k', .int .i64 cf', .slice B m.length d]] w (RetBool true w) := by
  obtain ⟨P, hP⟩ : ∃ P : World → Prop, P = Bx (w.alloc (.cells #[.int .i64 k, .int .i64 cf, .slice A l.length c] 24)) [.int .i64 k', .int .i64 cf', .slice B m.length d] 24 := ⟨_, rfl⟩
  have hlow : ∀ W, P W → Below w.heap.size w W := fun W hW => by subst hP; exact bx_low (bx_on (bx_new w [.int .i64 k, .int .i64 cf, .slice A l.length c] 24) (bx_low hW))
  have HLow := Lib.hid hlow
  have HOn : Hid (∀ W W', P W → Below W.heap.size W W' → P W') := Lib.hid (fun W W' hW hb => by subst hP; exact bx_on hW hb)
  have HB0 : Hid (P ((w.alloc (.cells #[.int .i64 k, .int .i64 cf, .slice A l.length c] 24)).alloc (.cells #[.int .i64 k', .int .i64 cf', .slice B m.length d] 24))) := Lib.hid (by subst hP; exact bx_new _ _ _)
  have HA : Hid (∀ W, P W → Calls Tryd.prog 11 #[] W fun e w' => e = .returned (.bool true) ∧ P w') := Lib.hid (fun W hW => (awake_any W (he.below (hlow W hW))).mono fun _ _ ⟨a, b⟩ => ⟨a, HOn.out _ _ hW b⟩)
  have HE : Hid (∀ W, P W → Env W) := Lib.hid (fun W hW => he.below (hlow W hW))
  have HC : Hid (∀ W, P W → Two W w.heap.size (w.heap.size + 1) (.int .i64 k) (.int .i64 cf) (.slice A l.length c) (.int .i64 k') (.int .i64 cf') (.slice B m.length d)) :=
    Lib.hid (fun W hW => by
      subst hP
      have h1 := bx_on (bx_new w [.int .i64 k, .int .i64 cf, .slice A l.length c] 24) (bx_low hW)
      have e : (w.alloc (.cells #[.int .i64 k, .int .i64 cf, .slice A l.length c] 24)).heap.size = w.heap.size + 1 := by simp
      refine ⟨⟨bx_cell h1 0 _ rfl, bx_cell h1 1 _ rfl, bx_cell h1 2 _ rfl⟩, ?_, ?_, ?_⟩
      · rw [← e]; exact bx_cell hW 0 _ rfl
      · rw [← e]; exact bx_cell hW 1 _ rfl
      · rw [← e]; exact bx_cell hW 2 _ rfl)
  have HF : Hid (∀ W, P W → Calls Tryd.prog 12 #[.slice A l.length c] W fun e w' => e = .returned (.bool (fewB l)) ∧ W = w') := Lib.hid (fun W hW => few_any A c l W (h.below (hlow W hW)))
  have HF' : Hid (∀ W, P W → Calls Tryd.prog 12 #[.slice B m.length d] W fun e w' => e = .returned (.bool (fewB m)) ∧ W = w') := Lib.hid (fun W hW => few_any B d m W (h'.below (hlow W hW)))
  have HU : Hid (∀ W, P W → Calls Tryd.prog 16 #[.agg #[.int .i64 k, .int .i64 cf, .slice A l.length c]] W fun e w' => e = .returned (.int .i64 (vEn ⟨k, cf, l⟩)) ∧ P w') := Lib.hid (fun W hW => (refValid_any k cf l A c W (h.below (hlow W hW))).mono fun _ _ ⟨a, b⟩ => ⟨a, HOn.out _ _ hW b⟩)
  have HU' : Hid (∀ W, P W → Calls Tryd.prog 16 #[.agg #[.int .i64 k', .int .i64 cf', .slice B m.length d]] W fun e w' => e = .returned (.int .i64 (vEn ⟨k', cf', m⟩)) ∧ P w') := Lib.hid (fun W hW => (refValid_any k' cf' m B d W (h'.below (hlow W hW))).mono fun _ _ ⟨a, b⟩ => ⟨a, HOn.out _ _ hW b⟩)
  have HG : Hid (fewB l = true → vEn ⟨k, cf, l⟩ = 0 → ∀ W, P W → Calls Tryd.prog 13 #[.agg #[.int .i64 k, .int .i64 cf, .slice A l.length c]] W fun e w' => e = .returned (.tuple #[.string ⟨(valE ⟨k, cf, l⟩).toArray⟩, .int .i64 0]) ∧ P w') := Lib.hid (fun hf hv W hW => by
    obtain ⟨hn, hok⟩ := few_ok hf hr
    have h9 := enEncode_any k cf l A c W (HE.out W hW) (h.below (hlow W hW)) hn hok hi
    unfold encE at h9
    rw [hv, if_pos rfl] at h9
    exact h9.mono fun _ _ ⟨a, b⟩ => ⟨a, HOn.out _ _ hW b⟩)
  have HG' : Hid (fewB m = true → vEn ⟨k', cf', m⟩ = 0 → ∀ W, P W → Calls Tryd.prog 13 #[.agg #[.int .i64 k', .int .i64 cf', .slice B m.length d]] W fun e w' => e = .returned (.tuple #[.string ⟨(valE ⟨k', cf', m⟩).toArray⟩, .int .i64 0]) ∧ P w') := Lib.hid (fun hf hv W hW => by
    obtain ⟨hn, hok⟩ := few_ok hf hr'
    have h9 := enEncode_any k' cf' m B d W (HE.out W hW) (h'.below (hlow W hW)) hn hok hi'
    unfold encE at h9
    rw [hv, if_pos rfl] at h9
    exact h9.mono fun _ _ ⟨a, b⟩ => ⟨a, HOn.out _ _ hW b⟩)
  have HQ : Hid (vEn ⟨k, cf, l⟩ = 0 → vEn ⟨k', cf', m⟩ = 0 → ∀ W, P W → Calls Tryd.prog 18 #[.agg #[.int .i64 k, .int .i64 cf, .slice A l.length c], .agg #[.int .i64 k', .int .i64 cf', .slice B m.length d]] W fun e w' => e = .returned (.bool (decide (valE ⟨k, cf, l⟩ = valE ⟨k', cf', m⟩))) ∧ P w') := Lib.hid (fun hv hv' W hW => by
    rw [← enEq_val k cf l k' cf' m hv hv']
    exact (equal_any k cf k' cf' A B c d l m W (h.below (hlow W hW)) (h'.below (hlow W hW))).mono fun _ _ ⟨a, b⟩ => ⟨a, HOn.out _ _ hW b⟩)
  clear h h' hi hi' hr hr' he hlow hP
  go_enter Tryd.func7, Tryd.ntmps7
  go_wp2_with fail
  refine (HA.out _ HB0.out).mono ?_
  rintro e w1 ⟨rfl, b1⟩
  have HB1 := Lib.hid b1
  clear b1
  obtain ⟨⟨c0, c1, c2⟩, d0, d1, d2⟩ := HC.out _ HB1.out
  go_wp2_with fail
  refine (HF.out _ HB1.out).mono ?_
  rintro e w2 ⟨rfl, rfl⟩
  cases hf : fewB l with
  | false =>
    clear HF HF' HU HU' HG HG' HQ
    go_wp2_with fail
    refine (HA.out _ HB1.out).mono ?_
    rintro e w3 ⟨rfl, b3⟩
    go_wp2_with fail
    go_ret
    exact ret_bl rfl (HLow.out _ b3)
  | true =>
    have HG1 := Lib.hid (HG.out hf)
    clear HF HG hf
    go_wp2_with fail
    refine (HF'.out _ HB1.out).mono ?_
    rintro e w2 ⟨rfl, rfl⟩
    cases hf : fewB m with
    | false =>
      clear HF' HU HU' HG1 HG' HQ
      go_wp2_with fail
      refine (HA.out _ HB1.out).mono ?_
      rintro e w3 ⟨rfl, b3⟩
      go_wp2_with fail
      go_ret
      exact ret_bl rfl (HLow.out _ b3)
    | true =>
      have HG2 := Lib.hid (HG'.out hf)
      clear HF' HG' hf
      go_wp2_with fail
      by_cases hv : vEn ⟨k, cf, l⟩ = 0
      · have HG3 := Lib.hid (HG1.out hv)
        have HQ3 := Lib.hid (HQ.out hv)
        rw [hv] at HU
        clear HG1 HQ hv
        refine (HU.out _ HB1.out).mono ?_
        rintro e w3 ⟨rfl, b3⟩
        have HB3 := Lib.hid b3
        clear b3 c0 c1 c2 d0 d1 d2
        obtain ⟨⟨c0, c1, c2⟩, d0, d1, d2⟩ := HC.out _ HB3.out
        go_wp2_with fail
        by_cases hv : vEn ⟨k', cf', m⟩ = 0
        · have HG4 := Lib.hid (HG2.out hv)
          have HQ4 := Lib.hid (HQ3.out hv)
          rw [hv] at HU'
          clear HG2 HQ3 hv
          generalize valE ⟨k, cf, l⟩ = s at HG3 HQ4
          generalize valE ⟨k', cf', m⟩ = t at HG4 HQ4
          refine (HU'.out _ HB3.out).mono ?_
          rintro e w4 ⟨rfl, b4⟩
          have HB4 := Lib.hid b4
          clear b4 c0 c1 c2 d0 d1 d2
          obtain ⟨⟨c0, c1, c2⟩, d0, d1, d2⟩ := HC.out _ HB4.out
          go_wp2_with fail
          refine (HG3.out _ HB4.out).mono ?_
          rintro e w5 ⟨rfl, b5⟩
          have HB5 := Lib.hid b5
          clear b5 c0 c1 c2 d0 d1 d2
          obtain ⟨⟨c0, c1, c2⟩, d0, d1, d2⟩ := HC.out _ HB5.out
          go_wp2_with fail
          refine (HG4.out _ HB5.out).mono ?_
          rintro e w6 ⟨rfl, b6⟩
          have HB6 := Lib.hid b6
          clear b6 c0 c1 c2 d0 d1 d2
          obtain ⟨⟨c0, c1, c2⟩, d0, d1, d2⟩ := HC.out _ HB6.out
          go_wp2_with fail
          refine (HQ4.out _ HB6.out).mono ?_
          rintro e w7 ⟨rfl, b7⟩
          by_cases hst : s = t
          · rw [decide_eq_true hst]
            have hst1 : (s == t) = true := by simpa using hst
            go_wp2_with fail
            go_ret
            exact ret_bl (by simp []) (HLow.out _ b7)
          · rw [decide_eq_false hst]
            have hst1 : (s == t) = false := by simpa using hst
            go_wp2_with fail
            go_ret
            exact ret_bl (by simp []) (HLow.out _ b7)
        · generalize vEn ⟨k', cf', m⟩ = v at HU' hv
          have hv1 : (v == 0) = false := by simpa using hv
          have hv2 : (v != 0) = true := by simpa using hv
          clear HG2 HG3 HQ3 hv
          refine (HU'.out _ HB3.out).mono ?_
          rintro e w4 ⟨rfl, b4⟩
          go_wp2_with fail
          refine (HA.out _ b4).mono ?_
          rintro e w5 ⟨rfl, b5⟩
          go_wp2_with fail
          go_ret
          exact ret_bl rfl (HLow.out _ b5)
      · generalize vEn ⟨k, cf, l⟩ = v at HU hv
        have hv1 : (v == 0) = false := by simpa using hv
        have hv2 : (v != 0) = true := by simpa using hv
        clear HG1 HG2 HQ HU' hv
        refine (HU.out _ HB1.out).mono ?_
        rintro e w4 ⟨rfl, b4⟩
        go_wp2_with fail
        refine (HA.out _ b4).mono ?_
        rintro e w5 ⟨rfl, b5⟩
        go_wp2_with fail
        go_ret
        exact ret_bl rfl (HLow.out _ b5)
end Go.Proofs.YthmoplkleopahaaDoor
