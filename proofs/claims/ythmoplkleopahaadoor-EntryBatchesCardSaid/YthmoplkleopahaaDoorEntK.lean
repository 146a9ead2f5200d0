/- The contracts of slices.Clone on requests, and of the closure of entry.Batches. -/
import Derived.Test.YthmoplkleopahaaDoorEntJ
namespace Go.Proofs.YthmoplkleopahaaDoor
open Go.RowKit

theorem rqC_one (l : List Rq) : ∀ u ∈ l.flatMap rqC, u.oneCell' = true := by
  intro u hu
  obtain ⟨r, _, hr⟩ := List.mem_flatMap.1 hu
  simp only [rqC, List.mem_cons, List.not_mem_nil, or_false] at hr
  rcases hr with rfl | rfl | rfl <;> rfl
/-- requests in a row of the call's own -/
def RetOwn (l : List Rq) (w : World) (e : Ending) (w' : World) : Prop := ∃ A c, e = .returned (.slice A l.length c) ∧ w'.ownsRow w.heap.size 42 3 (.slice A l.length c) l.length (l.flatMap rqC) ∧ Below w.heap.size w w'
theorem ret_ow {l : List Rq} {w w' : World} {n c : Nat} {A : Option Addr} (hn : n = l.length) (h : w'.ownsRow w.heap.size 42 3 (.slice A n c) n (l.flatMap rqC)) (hb : Below w.heap.size w w') : RetOwn l w (.returned (.slice A n c)) w' := by
  subst hn; exact ⟨A, c, rfl, h, hb⟩
theorem own_in {w : World} {base : Nat} {A : Option Addr} {c : Nat} {l : List Rq} (h : w.ownsRow base 42 3 (.slice A l.length c) l.length (l.flatMap rqC)) (hf : l.length ≤ 9223372036854775807) (ho : ∀ r ∈ l, r.op.length ≤ 9223372036854775807) : RqIn w A c l :=
  ⟨Rd.own h, own_cap h, own_max h, hf, ho⟩
set_option maxRecDepth 100000 in
set_option maxHeartbeats 1000000 in
theorem cloneRq_any (A : Option Addr) (c : Nat) (l : List Rq) (w : World) (h : RqIn w A c l) (hn : l.length ≤ 1099511627776) :
    Calls Tryd.prog 23 #[.slice A l.length c] w (RetOwn l w) := by
  obtain ⟨i0, hi, hz0, hz1, hz2⟩ := info_parts infoR
  have HI := Lib.hid hi
  have HZ0 := Lib.hid hz0
  have HZ1 := Lib.hid hz1
  have HZ2 := Lib.hid hz2
  have HR := Lib.hid h.rd
  have HOne := Lib.hid (rqC_one l)
  have q22 : ∀ (w : World) (a : Option Addr) (n c n' c' : Nat), (binOp .eql 22 (.slice a n c) (.slice none n' c')).run Tryd.prog w = .ok (.bool a.isNone) w := fun w a n c n' c' => Lib.run_eql_slice_nil w _ _ a n c n' c' Tryd.underlying22
  clear hi hz0 hz1 hz2 h
  cases A with
  | none =>
    have hl : l.length = 0 := by
      by_cases hp : 0 < l.length
      · obtain ⟨b, o, e, _⟩ := HR.out.cells (by rw [flat_len rqC 3 rqC_len]; omega)
        simp at e
      · omega
    obtain rfl : l = [] := List.eq_nil_of_length_eq_zero hl
    clear hl
    go_enter Tryd.func23, Tryd.ntmps23
    go_wp2_with fail
    go_ret
    exact ret_ow rfl (World.ownsRow_nil _ _ _ _) (Below.refl _ _)
  | some a =>
    have HO := Lib.hid (World.ownsRow_lit (base := w.heap.size) (e := 42) (size := 3) w #[] 0 (Nat.le_refl _) (by simp) rfl)
    have hnews : ∀ j u, (l.flatMap rqC)[j]? = some u → (w.alloc (.cells #[] 42)).cell? (a.add j) = some u := fun j u hu => by
      have hj : j < (l.flatMap rqC).length := (List.getElem?_eq_some_iff.1 hu).1
      obtain ⟨b, o, e, hb, hc⟩ := HR.out.cells (by omega)
      simp only [Option.some.injEq] at e
      subst e
      rw [add_plain']
      exact ((below_new w _).cell (p := ⟨b, o + j, none⟩) hb).trans (hc j u hu)
    have HN := Lib.hid hnews
    have HLen := Lib.hid (flat_len rqC 3 rqC_len l)
    clear hnews
    go_enter Tryd.func23, Tryd.ntmps23
    go_wp2_with (at_builtin; refine wpList_append_own _ rfl _ _ 22 rfl w.heap.size 42 i0 _ 3 32 Tryd.underlying22 HI.out HZ0.out HZ1.out HZ2.out rfl (by decide) _ 0 [] rfl HO.out a l.length c (l.flatMap rqC) rfl HLen.out HN.out HOne.out (by simp [maxLen]; omega) (by omega) (by simp) ?_)
    intro v' w2 hown' hgrow _
    obtain ⟨A, c2, hv⟩ := ownsRow_form hown'
    subst hv
    have HO2 := Lib.hid hown'
    have HG2 := Lib.hid hgrow
    clear hown' hgrow
    go_wp2_with fail
    go_ret
    exact ret_ow rfl HO2.out (below_grown (below_new w _) (by simp) HG2.out (fun g hg => by simp [Value.ownBlock] at hg; omega))
/-- one cell that holds an int -/
def Cell1 (x : Int) (b : Nat) (w : World) : Prop := b < w.heap.size ∧ w.cell? ⟨b, 0, none⟩ = some (.int .i64 x)
theorem Cell1.below {x : Int} {b : Nat} {w w' : World} (h : Cell1 x b w) (hb : Below w.heap.size w w') : Cell1 x b w' := ⟨Nat.lt_of_lt_of_le h.1 hb.size, (hb.cell (p := ⟨b, 0, none⟩) h.1).trans h.2⟩
set_option maxRecDepth 100000 in
set_option maxHeartbeats 1000000 in
theorem fits_any (k b : Int) (kb bb : Nat) (A : Option Addr) (c : Nat) (l : List Rq) (w : World) (he : Env w) (hk : Cell1 k kb w) (hb : Cell1 b bb w) (h : RqIn w A c l) (hn : l.length ≤ 1000) (hok : RqsOk l) :
    Calls Tryd.prog 42 #[.slice A l.length c, .pointer (some ⟨kb, 0, none⟩), .pointer (some ⟨bb, 0, none⟩)] w (RetBool (fitsB k b l) w) := by
  have HL := Lib.hid h
  obtain ⟨hk0, hk1⟩ := hk
  obtain ⟨hb0, hb1⟩ := hb
  have hlen : (valE ⟨1, 0, l⟩).length ≤ 10000000 := by
    have h1 := rqs_tot l hok
    unfold valE
    rw [strs_other 1 0 l (by decide) (by decide)]
    have := putList_len (wBatch :: l.flatMap rqS) (by rw [tot_cons]; simp only [wBatch, List.length_cons, List.length_nil]; omega) (by simp only [List.length_cons]; omega)
    rw [tot_cons] at this
    simp only [wBatch, List.length_cons, List.length_nil] at this ⊢
    omega
  by_cases hkl : (l.length : Int) ≤ k
  · have HV : Hid (∀ W, Below w.heap.size w W → Calls Tryd.prog 31 #[.agg #[.int .i64 1, .int .i64 0, .slice A l.length c]] W fun e w' => e = .returned (.string ⟨(valE ⟨1, 0, l⟩).toArray⟩) ∧ Below w.heap.size w w') := Lib.hid (fun W hW => (value_any 1 0 l A c W (he.below hW) (HL.out.below hW) hn hok ⟨by decide, by decide⟩).mono fun _ _ ⟨a, b⟩ => ⟨a, bon hW b⟩)
    have HC : Hid (∀ W, Below w.heap.size w W → W.cell? ⟨kb, 0, none⟩ = some (.int .i64 k) ∧ W.cell? ⟨bb, 0, none⟩ = some (.int .i64 b)) := Lib.hid (fun W hW => ⟨(hW.cell (p := ⟨kb, 0, none⟩) hk0).trans hk1, (hW.cell (p := ⟨bb, 0, none⟩) hb0).trans hb1⟩)
    have HY : Hid (fitsB k b l = decide (((valE ⟨1, 0, l⟩).length : Int) ≤ b)) := Lib.hid (by unfold fitsB; rw [decide_eq_true hkl, Bool.true_and])
    have H0 : Below w.heap.size w w := Below.refl _ _
    generalize valE ⟨1, 0, l⟩ = v at HV HY hlen
    clear he h hn hok hk1 hb1
    go_enter Tryd.func42, Tryd.ntmps42
    go_wp2_with fail
    go_region_held3 (fun w1 => w1.cell? ⟨kb, 0, none⟩ = some (.int .i64 k) ∧ w1.cell? ⟨bb, 0, none⟩ = some (.int .i64 b))
      (first | exact HC.out _ (Below.drew ‹Below _ _ _›) | exact HC.out _ ‹Below _ _ _›)
      (first | (go_at_call 31; refine (HV.out _ (by first | assumption | exact Below.drew ‹Below _ _ _›)).mono ?_; rintro e w2 ⟨rfl, b2⟩))
    all_goals
      go_wp2_with fail
      go_ret
      exact ret_bl (by rw [HY.out]) ‹_›
  · have HY : Hid (fitsB k b l = false) := Lib.hid (by unfold fitsB; rw [decide_eq_false hkl, Bool.false_and])
    have hd : decide ((l.length : Int) ≤ k) = false := decide_eq_false hkl
    clear he h hn hok hlen
    go_enter Tryd.func42, Tryd.ntmps42
    go_wp2_with fail
    go_quiet (fail)
    all_goals
      go_wp2_with fail
      go_ret
      exact ret_bl HY.out (bdN (Below.refl _ _) _)
end Go.Proofs.YthmoplkleopahaaDoor
