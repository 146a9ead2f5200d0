/- The contract of slices.Clone on strings; the law on Fresh. -/
import Derived.Test.YthmoplkleopahaaDoorLawC
import Derived.Test.YthmoplkleopahaaDoorRefL
namespace Go.Proofs.YthmoplkleopahaaDoor
open Go.RowKit

theorem strC_one (l : List (List UInt8)) : ∀ u ∈ strC l, u.oneCell' = true := by
  intro u hu
  obtain ⟨r, _, rfl⟩ := List.mem_map.1 hu
  rfl
set_option maxRecDepth 100000 in
set_option maxHeartbeats 1000000 in
theorem cloneStr_any (A : Option Addr) (c : Nat) (l : List (List UInt8)) (w : World) (h : Rd w 1 A l.length (strC l)) (hn : l.length ≤ 1099511627776) :
    Calls Tryd.prog 27 #[.slice A l.length c] w (RetStrs l w) := by
  obtain ⟨i0, hi, hz0, hz1, hz2⟩ := info_parts infoS
  have HI := Lib.hid hi
  have HZ0 := Lib.hid hz0
  have HZ1 := Lib.hid hz1
  have HZ2 := Lib.hid hz2
  have HR := Lib.hid h
  have HOne := Lib.hid (strC_one l)
  have q22 : ∀ (w : World) (a : Option Addr) (n c n' c' : Nat), (binOp .eql 45 (.slice a n c) (.slice none n' c')).run Tryd.prog w = .ok (.bool a.isNone) w := fun w a n c n' c' => Lib.run_eql_slice_nil w _ _ a n c n' c' Tryd.underlying45
  clear hi hz0 hz1 hz2 h
  cases A with
  | none =>
    have hl : l.length = 0 := by
      by_cases hp : 0 < l.length
      · obtain ⟨b, o, e, _⟩ := HR.out.cells (by simp [strC]; omega)
        simp at e
      · omega
    obtain rfl : l = [] := List.eq_nil_of_length_eq_zero hl
    clear hl
    go_enter Tryd.func27, Tryd.ntmps27
    go_wp2_with fail
    go_ret
    exact ⟨none, 0, rfl, Rd.nil _ _ _, Below.refl _ _⟩
  | some a =>
    have HO := Lib.hid (World.ownsRow_lit (base := w.heap.size) (e := 9) (size := 1) w #[] 0 (Nat.le_refl _) (by simp) rfl)
    have HLen : Hid ((strC l).length = l.length * 1) := Lib.hid (by simp [strC])
    have HN : Hid (∀ j u, (strC l)[j]? = some u → (w.alloc (.cells #[] 9)).cell? (a.add j) = some u) := Lib.hid (fun j u hu => by
      have hj : j < (strC l).length := (List.getElem?_eq_some_iff.1 hu).1
      obtain ⟨b, o, e, hb, hc⟩ := HR.out.cells (by omega)
      simp only [Option.some.injEq] at e
      subst e
      rw [add_plain']
      exact ((below_new w _).cell (p := ⟨b, o + j, none⟩) hb).trans (hc j u hu))
    go_enter Tryd.func27, Tryd.ntmps27
    go_wp2_with (at_builtin; refine wpList_append_own _ rfl _ _ 45 rfl w.heap.size 9 i0 _ 1 16 Tryd.underlying45 HI.out HZ0.out HZ1.out HZ2.out rfl (by decide) _ 0 [] rfl HO.out a l.length c (strC l) rfl HLen.out HN.out HOne.out (by simp [maxLen]; omega) (by omega) (by simp) ?_)
    intro v' w2 hown' hgrow _
    obtain ⟨A, c2, hv⟩ := ownsRow_form hown'
    subst hv
    have HO2 := Lib.hid hown'
    have HG2 := Lib.hid hgrow
    clear hown' hgrow
    go_wp2_with fail
    go_ret
    exact ⟨A, c2, rfl, Rd.own HO2.out, below_grown (below_new w _) (by simp) HG2.out (fun g hg => by simp [Value.ownBlock] at hg; omega)⟩
set_option maxRecDepth 100000 in
set_option maxHeartbeats 2000000 in
theorem lawFresh (A : Option Addr) (c : Nat) (l : List Rq) (B : Option Addr) (d : Nat) (vs : List (List UInt8)) (w : World) (he : Env w) (h : RqIn w A c l) (hv : Rd w 1 B vs.length (strC vs)) (hvn : vs.length ≤ 9223372036854775807) (hvs : ∀ x ∈ vs, x.length ≤ 9223372036854775807) :
    Calls Tryd.prog 10 #[.slice A l.length c, .slice B vs.length d] w (RetBool true w) := by
  have HA : Hid (∀ W, Below w.heap.size w W → Calls Tryd.prog 11 #[] W fun e w' => e = .returned (.bool true) ∧ Below w.heap.size w w') := Lib.hid (fun W hW => (awake_any W (he.below hW)).mono fun _ _ ⟨a, b⟩ => ⟨a, bon hW b⟩)
  have HB0 : Hid (Below w.heap.size w w) := Lib.hid (Below.refl _ _)
  have HF : Hid (∀ W, Below w.heap.size w W → Calls Tryd.prog 12 #[.slice A l.length c] W fun e w' => e = .returned (.bool (fewB l)) ∧ W = w') := Lib.hid (fun W hW => few_any A c l W (h.below hW))
  cases hfew : fewB l with
  | false =>
    rw [hfew] at HF
    clear h he hv hvs hfew
    go_enter Tryd.func10, Tryd.ntmps10
    go_wp2_with fail
    refine (HA.out _ HB0.out).mono ?_
    rintro e w1 ⟨rfl, b1⟩
    have HB1 := Lib.hid b1
    clear b1
    go_wp2_with fail
    refine (HF.out _ HB1.out).mono ?_
    rintro e w2 ⟨rfl, rfl⟩
    go_wp2_with fail
    refine (HA.out _ HB1.out).mono ?_
    rintro e w3 ⟨rfl, b3⟩
    go_wp2_with fail
    go_ret
    exact ret_bl rfl b3
  | true =>
    rw [hfew] at HF
    obtain ⟨hn30, ho250⟩ := few_get hfew
    by_cases hmany : 10 < vs.length
    · have hm1 : (10 : Int) < (vs.length : Int) := by omega
      clear h he hv hvs hfew
      go_enter Tryd.func10, Tryd.ntmps10
      go_wp2_with fail
      refine (HA.out _ HB0.out).mono ?_
      rintro e w1 ⟨rfl, b1⟩
      have HB1 := Lib.hid b1
      clear b1
      go_wp2_with fail
      refine (HF.out _ HB1.out).mono ?_
      rintro e w2 ⟨rfl, rfl⟩
      go_wp2_with fail
      refine (HA.out _ HB1.out).mono ?_
      rintro e w3 ⟨rfl, b3⟩
      go_wp2_with fail
      go_ret
      exact ret_bl rfl b3
    · have hm1 : ¬ (10 : Int) < (vs.length : Int) := by omega
      have HV := Lib.hid hv
      have HVs := Lib.hid hvs
      have HQ := Lib.hid h
      have HE := Lib.hid he
      have HOp : Hid (∀ r ∈ l, r.op.length ≤ 9223372036854775807) := Lib.hid h.op
      clear h he hv hvs hfew
      go_enter Tryd.func10, Tryd.ntmps10
      go_wp2_with fail
      refine (HA.out _ HB0.out).mono ?_
      rintro e w1 ⟨rfl, b1⟩
      have HB1 := Lib.hid b1
      clear b1
      go_wp2_with fail
      refine (HF.out _ HB1.out).mono ?_
      rintro e w2 ⟨rfl, rfl⟩
      go_wp2_with fail
      go_loop [22] (fun i => ∃ j : Nat, i = .int .i64 j ∧ j ≤ vs.length ∧ ∀ x ∈ vs.take j, x.length ≤ 2100) (fun i => vs.length - (intOf i).toNat)
      case atStart => exact ⟨0, rfl, by omega, by simp⟩
      case round =>
        obtain ⟨j, rfl, hj, hall⟩ := hrel
        have HAll := Lib.hid hall
        clear hall
        by_cases hlt : j < vs.length
        · have i0' : (0 : Int) ≤ (j : Int) := by omega
          have i1 : (j : Int) < (vs.length : Int) := by omega
          obtain ⟨g, o, rfl, hg, hcc⟩ := HV.out.cells (by simp [strC]; omega)
          have a0 : w1.cell? ⟨g, o + j, none⟩ = some (.string ⟨vs[j].toArray⟩) := (HB1.out.cell (p := ⟨g, o + j, none⟩) hg).trans (hcc j _ (by simp [strC, hlt]))
          have hl := HVs.out vs[j] (List.getElem_mem hlt)
          clear hcc
          by_cases hb : 2100 < (vs[j]).length
          · have hb1 : (2100 : Int) < ((vs[j]).length : Int) := by omega
            go_wp2_with fail
            go_ret
            exact ret_bl rfl HB1.out
          · have hb1 : ¬ (2100 : Int) < ((vs[j]).length : Int) := by omega
            have HT : Hid (∀ x ∈ vs.take (j + 1), x.length ≤ 2100) := Lib.hid (fun x hx => by
              rw [List.take_succ_eq_append_getElem hlt] at hx
              rcases List.mem_append.1 hx with hx | hx
              · exact HAll.out x hx
              · simp only [List.mem_cons, List.not_mem_nil, or_false] at hx
                subst hx; omega)
            go_wp2_with fail
            go_round
            case rel => exact ⟨j + 1, by go_num, by omega, HT.out⟩
            case measure => simp [intOf]; omega
        · have HAll2 : Hid (∀ x ∈ vs, x.length ≤ 2100) := Lib.hid (by have := HAll.out; rwa [List.take_of_length_le (by omega)] at this)
          have HCl := Lib.hid (cloneRq_any A c l w1 (HQ.out.below HB1.out) (by omega))
          go_wp2_with fail
          clear hj hlt
          refine HCl.out.mono ?_
          rintro e w2 ⟨A2, c2, rfl, o2, b2⟩
          have HB2 := Lib.hid (bon HB1.out b2)
          have HQ2 := Lib.hid (own_in o2 (by omega) HOp.out)
          clear b2 o2
          go_wp2_with fail
          refine (cloneStr_any B d vs w2 (HV.out.below HB2.out) (by omega)).mono ?_
          rintro e w3 ⟨B3, d3, rfl, r3, b3⟩
          have HB3 := Lib.hid (bon HB2.out b3)
          have HF3 := Lib.hid (fresh_any A2 c2 l B3 d3 vs w3 (HE.out.below HB3.out) (HQ2.out.below b3) (by omega) r3 (by omega) HAll2.out)
          clear b3 r3
          go_wp2_with fail
          refine HF3.out.mono ?_
          rintro e w4 ⟨A4, c4, rfl, q4, b4⟩
          have HB4 := Lib.hid (bon HB3.out b4)
          have HR4 := Lib.hid (refFresh_any A c l B d vs w4 (HQ.out.below HB4.out) (by omega) (HV.out.below HB4.out) (by omega) HAll2.out)
          have HQ4 := Lib.hid q4
          clear b4 q4
          generalize fresh (seenV vs) [] l = res at HR4 HQ4 ⊢
          go_wp2_with fail
          refine HR4.out.mono ?_
          rintro e w5 ⟨A5, c5, rfl, q5, b5⟩
          have HB5 := Lib.hid (bon HB4.out b5)
          have HX5 := Lib.hid (requestsEq_any A4 A5 c4 c5 res res w5 (HQ4.out.below b5) q5)
          clear b5 q5
          go_wp2_with fail
          refine HX5.out.mono ?_
          rintro e w6 ⟨rfl, q, rfl⟩
          go_wp2_with fail
          go_ret
          exact ret_bl (by simp) (bdN HB5.out q)
end Go.Proofs.YthmoplkleopahaaDoor
