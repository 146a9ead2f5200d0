/- The contract of message.list at api.Decided. -/
import Derived.Test.YtoehakekjlebdaaDoorCodeDe
import Derived.Test.YtoehakekjlebdaaDoorWireL
import Derived.Test.YtoehakekjlebdaaDoorInfo
namespace Go.Proofs.YtoehakekjlebdaaDoor
open Go.RowKit

theorem deC_len (x : De) : (deC x).length = 3 := rfl
set_option maxRecDepth 100000 in
set_option maxHeartbeats 2000000 in
theorem listDe_any (A : Option Addr) (c : Nat) (l : List De) (w : World) (hr : Rd w 3 A l.length (l.flatMap deC)) (hok : ∀ x ∈ l, x.ok w) (hs : sum De.sz l ≤ 16777216) :
    Calls Tryd.prog 56 #[.slice A l.length c, .func (.func 57) #[] #[]] w (RetStr (putList (l.map encDe)) w) := by
  obtain ⟨i0, hi, hz0, hz1, hz2⟩ := info_parts infoS
  have HI := Lib.hid hi
  have HZ0 := Lib.hid hz0
  have HZ1 := Lib.hid hz1
  have HZ2 := Lib.hid hz2
  have HR := Lib.hid hr
  have hlen := list_len encDe De.sz l (fun x hx => encDe_len x w (hok x hx) (by have := sum_get De.sz l x hx; omega)) (fun x => by have := x.sz_ge; omega) hs
  have HE : Hid (∀ x ∈ l, ∀ w1, Below w.heap.size w w1 → Calls Tryd.prog 57 #[.agg #[.int .i64 x.view, .string ⟨x.value.toArray⟩, .slice x.cert.a x.cert.l.length x.cert.c]] w1 (RetStr (encDe x) w1)) :=
    Lib.hid (fun x hx w1 hb => codeEntry_any x w1 (De.below (hok x hx) hb) (by have := sum_get De.sz l x hx; omega))
  have HP : Hid (∀ w' A c, Rd w' 1 A l.length (strC (l.map encDe)) → Calls Tryd.prog 59 #[.slice A l.length c] w' (RetStr (putList (l.map encDe)) w')) := Lib.hid (fun w' A c h => by
    have h2 := putList_any A c (l.map encDe) w' (by simpa using h) (by simp; omega) (by omega)
    simpa using h2)
  have hn : l.length ≤ 16777216 := by omega
  clear hi hz0 hz1 hz2 hr hok hs hlen
  go_enter Tryd.func56, Tryd.ntmps56
  go_wp2_with fail
  go_loopw [5, 10] (fun o i wr => ∃ k : Nat, i = .int .i64 k ∧ k ≤ l.length ∧ wr.ownsRow w.heap.size 9 1 o k (strC ((l.take k).map encDe)) ∧ Below w.heap.size w wr ∧ w.heap.size ≤ wr.heap.size) (fun _ i _ => l.length - (intOf i).toNat)
  case atStart => exact ⟨0, rfl, by omega, by simpa [strC] using World.ownsRow_nil _ _ _ _, Below.refl _ _, Nat.le_refl _⟩
  case round =>
    obtain ⟨k, rfl, hk, hown, hb, hge⟩ := hrel
    have HO := Lib.hid hown
    have HB := Lib.hid hb
    clear hown hb
    by_cases hlt : k < l.length
    · have i0' : (0 : Int) ≤ (k : Int) := by omega
      have i1 : (k : Int) < (l.length : Int) := by omega
      obtain ⟨g, o, rfl, hg, hcc⟩ := HR.out.at deC_len (by omega) hlt (w' := w)
      obtain ⟨x, hx⟩ : ∃ x, x = l[k] := ⟨_, rfl⟩
      have HX := Lib.hid hx.symm
      have HM := Lib.hid (hx ▸ List.getElem_mem hlt : x ∈ l)
      clear hx
      have a0 : wr.cell? ⟨g, o + k * 3, none⟩ = some (.int .i64 x.view) := by simpa using hcc wr HB.out 0 _ (by rw [HX.out]; rfl)
      have a1 : wr.cell? ⟨g, o + k * 3 + 1, none⟩ = some (.string ⟨x.value.toArray⟩) := hcc wr HB.out 1 _ (by rw [HX.out]; rfl)
      have a2 : wr.cell? ⟨g, o + k * 3 + 2, none⟩ = some (.slice x.cert.a x.cert.l.length x.cert.c) := hcc wr HB.out 2 _ (by rw [HX.out]; rfl)
      clear hcc
      go_wp2_with fail
      refine (HE.out x HM.out _ (HB.out.alloc hge _)).mono ?_
      rintro e w1 ⟨rfl, b1⟩
      have hz : wr.heap.size + 1 ≤ w1.heap.size := by have := b1.size; simpa using this
      have B1 : Hid (Below w.heap.size w w1) := Lib.hid ((HB.out.alloc hge _).trans (b1.mono (by simp; omega)))
      have HO1 : Hid (w1.ownsRow w.heap.size 9 1 _ k (strC ((l.take k).map encDe))) := Lib.hid (ownsRow_below (HO.out.alloc _) b1)
      clear b1 a0 a1 a2
      go_wp2_with (at_builtin; refine wpList_append_own _ rfl _ _ 26 rfl w.heap.size 9 i0 _ 1 16 Tryd.underlying26 HI.out HZ0.out HZ1.out HZ2.out rfl (by decide) _ _ _ rfl (HO1.out.alloc _) ⟨w1.heap.size, 0, none⟩ 1 1 [.string ⟨(encDe x).toArray⟩] rfl rfl (cell_new _ _ _ _ rfl) (by simp [Value.oneCell']) (by simp [maxLen]; omega) (by omega) (by simp; omega) ?_)
      intro v' w2 hown' hgrow _
      have HO2 : Hid (w2.ownsRow w.heap.size 9 1 v' (k + 1) (strC ((l.take (k + 1)).map encDe))) := Lib.hid (by
        rw [List.take_succ_eq_append_getElem hlt, List.map_append, List.map_cons, List.map_nil, HX.out, strC_snoc]
        simpa only [List.map_take] using hown')
      have HG2 := Lib.hid hgrow
      clear hown' hgrow
      go_wp2_with fail
      go_roundw
      case rel =>
        refine ⟨k + 1, by go_num, by omega, HO2.out, below_grown (B1.out.alloc (by omega) _) (by simp; omega) HG2.out (fun g hg => (HO1.out.lt g hg).1), ?_⟩
        have := HG2.out.size; simp at this; omega
      case measure => simp [intOf]; omega
    · obtain rfl : k = l.length := by omega
      have HL : Hid (wr.ownsRow w.heap.size 9 1 _ l.length (strC (l.map encDe))) := Lib.hid (by have := HO.out; rwa [List.take_length] at this)
      obtain ⟨A', c', hv⟩ := ownsRow_form HL.out
      subst hv
      have HR2 := Lib.hid (Rd.own HL.out)
      go_wp2_with fail
      refine (HP.out _ _ _ HR2.out).mono ?_
      rintro e w1 ⟨rfl, b1⟩
      have B1 := Lib.hid b1
      clear b1
      go_wp2_with fail
      go_ret
      exact ret_st rfl (HB.out.trans (B1.out.mono hge))
end Go.Proofs.YtoehakekjlebdaaDoor
