/- The contract of message.list at api.Handover. -/
import Derived.Test.YtoehakekjlebdaaDoorCodeDe
import Derived.Test.YtoehakekjlebdaaDoorWireL
import Derived.Test.YtoehakekjlebdaaDoorInfo
namespace Go.Proofs.YtoehakekjlebdaaDoor
open Go.RowKit

theorem hoC_len (x : Ho) : (hoC x).length = 4 := rfl
set_option maxRecDepth 100000 in
set_option maxHeartbeats 2000000 in
theorem listHo_any (A : Option Addr) (c : Nat) (l : List Ho) (w : World) (hr : Rd w 4 A l.length (l.flatMap hoC)) (hok : ∀ x ∈ l, x.ok w) (hs : sum Ho.sz l ≤ 16777216) :
    Calls Tryd.prog 74 #[.slice A l.length c, .func (.func 75) #[] #[]] w (RetStr (putList (l.map encHo)) w) := by
  obtain ⟨i0, hi, hz0, hz1, hz2⟩ := info_parts infoS
  have HI := Lib.hid hi
  have HZ0 := Lib.hid hz0
  have HZ1 := Lib.hid hz1
  have HZ2 := Lib.hid hz2
  have HR := Lib.hid hr
  have hlen := list_len encHo Ho.sz l (fun x hx => encHo_len x w (hok x hx) (by have := sum_get Ho.sz l x hx; omega)) (fun x => by have := x.sz_ge; omega) hs
  have HE : Hid (∀ x ∈ l, ∀ w1, Below w.heap.size w w1 → Calls Tryd.prog 75 #[.agg #[.int .i64 x.slot, .int .i64 x.entry.view, .string ⟨x.entry.value.toArray⟩, .slice x.entry.cert.a x.entry.cert.l.length x.entry.cert.c]] w1 (RetStr (encHo x) w1)) :=
    Lib.hid (fun x hx w1 hb => codeHo_any x w1 (Ho.below (hok x hx) hb) (by have := sum_get Ho.sz l x hx; omega))
  have HP : Hid (∀ w' A c, Rd w' 1 A l.length (strC (l.map encHo)) → Calls Tryd.prog 59 #[.slice A l.length c] w' (RetStr (putList (l.map encHo)) w')) := Lib.hid (fun w' A c h => by
    have h2 := putList_any A c (l.map encHo) w' (by simpa using h) (by simp; omega) (by omega)
    simpa using h2)
  have hn : l.length ≤ 16777216 := by omega
  clear hi hz0 hz1 hz2 hr hok hs hlen
  go_enter Tryd.func74, Tryd.ntmps74
  go_wp2_with fail
  go_loopw [5, 10] (fun o i wr => ∃ k : Nat, i = .int .i64 k ∧ k ≤ l.length ∧ wr.ownsRow w.heap.size 9 1 o k (strC ((l.take k).map encHo)) ∧ Below w.heap.size w wr ∧ w.heap.size ≤ wr.heap.size) (fun _ i _ => l.length - (intOf i).toNat)
  case atStart => exact ⟨0, rfl, by omega, by simpa [strC] using World.ownsRow_nil _ _ _ _, Below.refl _ _, Nat.le_refl _⟩
  case round =>
    obtain ⟨k, rfl, hk, hown, hb, hge⟩ := hrel
    have HO := Lib.hid hown
    have HB := Lib.hid hb
    clear hown hb
    by_cases hlt : k < l.length
    · have i0' : (0 : Int) ≤ (k : Int) := by omega
      have i1 : (k : Int) < (l.length : Int) := by omega
      obtain ⟨g, o, rfl, hg, hcc⟩ := HR.out.at hoC_len (by omega) hlt (w' := w)
      obtain ⟨x, hx⟩ : ∃ x, x = l[k] := ⟨_, rfl⟩
      have HX := Lib.hid hx.symm
      have HM := Lib.hid (hx ▸ List.getElem_mem hlt : x ∈ l)
      clear hx
      have a0 : wr.cell? ⟨g, o + k * 4, none⟩ = some (.int .i64 x.slot) := by simpa using hcc wr HB.out 0 _ (by rw [HX.out]; rfl)
      have a1 : wr.cell? ⟨g, o + k * 4 + 1, none⟩ = some (.int .i64 x.entry.view) := hcc wr HB.out 1 _ (by rw [HX.out]; rfl)
      have a2 : wr.cell? ⟨g, o + k * 4 + 2, none⟩ = some (.string ⟨x.entry.value.toArray⟩) := hcc wr HB.out 2 _ (by rw [HX.out]; rfl)
      have a3 : wr.cell? ⟨g, o + k * 4 + 3, none⟩ = some (.slice x.entry.cert.a x.entry.cert.l.length x.entry.cert.c) := hcc wr HB.out 3 _ (by rw [HX.out]; rfl)
      clear hcc
      go_wp2_with fail
      refine (HE.out x HM.out _ (HB.out.alloc hge _)).mono ?_
      rintro e w1 ⟨rfl, b1⟩
      have hz : wr.heap.size + 1 ≤ w1.heap.size := by have := b1.size; simpa using this
      have B1 : Hid (Below w.heap.size w w1) := Lib.hid ((HB.out.alloc hge _).trans (b1.mono (by simp; omega)))
      have HO1 : Hid (w1.ownsRow w.heap.size 9 1 _ k (strC ((l.take k).map encHo))) := Lib.hid (ownsRow_below (HO.out.alloc _) b1)
      clear b1 a0 a1 a2 a3
      go_wp2_with (at_builtin; refine wpList_append_own _ rfl _ _ 26 rfl w.heap.size 9 i0 _ 1 16 Tryd.underlying26 HI.out HZ0.out HZ1.out HZ2.out rfl (by decide) _ _ _ rfl (HO1.out.alloc _) ⟨w1.heap.size, 0, none⟩ 1 1 [.string ⟨(encHo x).toArray⟩] rfl rfl (cell_new _ _ _ _ rfl) (by simp [Value.oneCell']) (by simp [maxLen]; omega) (by omega) (by simp; omega) ?_)
      intro v' w2 hown' hgrow _
      have HO2 : Hid (w2.ownsRow w.heap.size 9 1 v' (k + 1) (strC ((l.take (k + 1)).map encHo))) := Lib.hid (by
        rw [List.take_succ_eq_append_getElem hlt, List.map_append, List.map_cons, List.map_nil, HX.out, strC_snoc]
        simpa only [List.map_take] using hown')
      have HG2 := Lib.hid hgrow
      clear hown' hgrow
      go_wp2_with fail
      go_roundw
      case rel =>
        refine ⟨k + 1, by go_num, by omega, HO2.out, below_grown (B1.out.alloc (by omega) _) (by simp; omega) HG2.out (fun g hg => (HO1.out.lt g hg).1), ?_⟩
        have := HG2.out.size; simp at this; omega
      case measure => simp [intOf]; omega
    · obtain rfl : k = l.length := by omega
      have HL : Hid (wr.ownsRow w.heap.size 9 1 _ l.length (strC (l.map encHo))) := Lib.hid (by have := HO.out; rwa [List.take_length] at this)
      obtain ⟨A', c', hv⟩ := ownsRow_form HL.out
      subst hv
      have HR2 := Lib.hid (Rd.own HL.out)
      go_wp2_with fail
      refine (HP.out _ _ _ HR2.out).mono ?_
      rintro e w1 ⟨rfl, b1⟩
      have B1 := Lib.hid b1
      clear b1
      go_wp2_with fail
      go_ret
      exact ret_st rfl (HB.out.trans (B1.out.mono hge))
end Go.Proofs.YtoehakekjlebdaaDoor
