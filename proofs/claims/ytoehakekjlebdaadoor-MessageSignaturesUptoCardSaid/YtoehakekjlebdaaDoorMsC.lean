/- The contract of awake. -/
import Derived.Test.YtoehakekjlebdaaDoorMsB
namespace Go.Proofs.YtoehakekjlebdaaDoor
open Go.RowKit

theorem exB_range (w : World) (g : Nat) (hr : w.rangeAt g 0 (msC exM)) : (w.setCell ⟨g, 5, none⟩ (.string ⟨#[120]⟩)).rangeAt g 0 (msC exB) := fun j v hv => by
  rw [Nat.zero_add]
  have h5 := hr 5 _ rfl
  rw [Nat.zero_add] at h5
  by_cases h : j = 5
  · subst h
    have hv2 : some (Value.string ⟨#[120]⟩) = some v := hv
    rw [← hv2]
    exact World.cell?_setCell_same _ _ _ h5
  · have he : msC exB = (msC exM).set 5 (.string ⟨#[120]⟩) := rfl
    rw [he, List.getElem?_set_ne (by omega)] at hv
    have := hr j v hv
    rw [Nat.zero_add] at this
    exact (World.cell?_setCell_other _ _ _ _ (by first | (simp; done) | (simp; omega))).trans this
theorem wpList_load_wanted {P : Program} {ops : Array Oper} {rest : List Oper} {op : Oper} {a : Act} {w : World} {Q : Exit → Act → World → Prop} (hw : Region.wanted op (yielded ops a.tmps) = true) (ty : TypeId) (x : Operand) (ho : op.op = .load ty x)
    (b o : Nat) (hx : a.eval x = .pointer (some ⟨b, o, none⟩)) (cs : List Value) (d : TypeDesc) (hc : w.rangeAt b o cs)
    (hu : P.underlying ty = some d) (hd : d.isRow = true) (hi : (P.info? ty).map (·.size) = some cs.length)
    (h : wpList P ops Q rest (a.put op.dst (.agg cs.toArray)) w) : wpList P ops Q (op :: rest) a w := by
  unfold wpList
  rw [if_pos hw]
  exact .inl (wp_load_mid ty x ho b o hx cs d hc hu hd hi h)
/-- the first bytes of a text -/
def Starts (B : ByteArray) : Prop := B.extract 0 8 = ⟨#[6, 2, 2, 4, 6, 0, 0, 0]⟩
theorem starts_of {l r : List UInt8} (h : l = [6, 2, 2, 4, 6, 0, 0, 0] ++ r) : Starts ⟨l.toArray⟩ := by
  unfold Starts
  rw [ext_mid, h]
  rfl
set_option maxRecDepth 100000 in
set_option maxHeartbeats 1000000 in
theorem awake_any (w : World) (he : Env w) : Calls Tryd.prog 6 #[] w (RetBool true w) := by
  obtain ⟨r, hr, hne⟩ := exM_enc
  obtain ⟨B, hB⟩ : ∃ B : ByteArray, B = ⟨(encMs exM).toArray⟩ := ⟨_, rfl⟩
  have hB8 : (8 : Nat) < B.size := by
    rw [hB, size_mk, hr]
    have : r.length ≠ 0 := by simpa using hne
    simp; omega
  have hB9 : B.size ≤ 1000000000 := by
    rw [hB, size_mk]
    have := encMs_len exM w (exM_ok w) exM_sz
    have := exM_sz
    omega
  have hS : Starts B := by rw [hB]; exact starts_of hr
  unfold Starts at hS
  have HEn : Hid (∀ w1, Calls Tryd.prog 10 #[.agg (msC exM).toArray] w1 fun e w' => e = .returned (.tuple #[.string B, .int .i64 0]) ∧ Below w1.heap.size w1 w') := Lib.hid (fun w1 => (encode_any exM w1 (exM_ok w1) exM_sz).mono fun e w' ⟨he, hb⟩ => ⟨by rw [he, exM_valid, hB]; unfold enc0; rw [if_pos exM_valid], hb⟩)
  have HVb : Hid (∀ w1, Calls Tryd.prog 8 #[.agg (msC exB).toArray] w1 fun e w' => e = .returned (.int .i64 1) ∧ Below w1.heap.size w1 w') := Lib.hid (fun w1 => (valid_any exB w1 (exB_ok w1) (MsFew.of_sz (by decide))).mono fun e w' ⟨he, hb⟩ => ⟨by rw [he, exB_valid], hb⟩)
  have HSh : Hid (∀ w1, Below w.heap.size w w1 → Calls Tryd.prog 17 #[.agg (msC exM).toArray] w1 (RetStr showT w1)) := Lib.hid (fun w1 hb => show_any w1 (he.below hb))
  have HAsk := Lib.hid ask_any
  clear hr hne hB he
  go_enter Tryd.func6, Tryd.ntmps6
  go_wp2_with fail
  refine (HAsk.out _).mono ?_
  rintro e w1 ⟨rfl, b1⟩
  have B1 := Lib.hid b1
  clear b1
  go_wp2_with fail
  refine (HEn.out _).mono ?_
  rintro e w2 ⟨rfl, b2⟩
  have B2 := Lib.hid (bon B1.out b2)
  clear b2
  go_wp2_with fail
  refine (HAsk.out _).mono ?_
  rintro e w3 ⟨rfl, b3⟩
  have B3 := Lib.hid (bon B2.out b3)
  clear b3
  have HT := Lib.hid (there_new w3 zeroC 32 21 rfl rfl)
  go_upto_region 3 with (refine wpList_store_mid rfl 32 _ _ rfl w3.heap.size 0 (msC exM).toArray rfl rfl HT.out (infoMs exM) (msC_one exM) ?_)
  obtain ⟨g, hg⟩ : ∃ g, g = w3.heap.size := ⟨_, rfl⟩
  obtain ⟨x1, hx1⟩ : ∃ x1, x1 = (w3.alloc (.cells zeroC.toArray 32)).setCells w3.heap.size 0 (msC exM) := ⟨_, rfl⟩
  have HR : Hid (x1.rangeAt g 0 (msC exM)) := Lib.hid (by rw [hx1, hg]; exact World.rangeAt_setCells_same _ _ _ _ HT.out)
  have HTh : Hid (x1.there g 0 21) := Lib.hid (by rw [hx1, hg]; exact World.there_setCells HT.out _ _ _)
  have HB : Hid (Below w.heap.size w x1) := Lib.hid (by rw [hx1]; exact below_setCells _ B3.out.size _ _ _ (B3.out.alloc B3.out.size _))
  have hgs : w.heap.size ≤ g := by rw [hg]; exact B3.out.size
  change Code.wp _ _ _ _ ((w3.alloc (.cells zeroC.toArray 32)).setCells w3.heap.size 0 (msC exM))
  rw [← hx1, ← hg]
  have c5 : x1.cell? ⟨g, 5, none⟩ = some (.string ⟨#[]⟩) := by have := HR.out 5 _ rfl; rw [Nat.zero_add] at this; exact this
  have f5 : x1.frozen? ⟨g, 5, none⟩ = false := by have := (HTh.out 5 (by decide)).2; rwa [Nat.zero_add] at this
  clear hx1 hg HT
  have HRb : Hid ((x1.setCell ⟨g, 5, none⟩ (.string ⟨#[120]⟩)).rangeAt g 0 (msC exB)) := Lib.hid (exB_range x1 g HR.out)
  have HBb : Hid (Below w.heap.size w (x1.setCell ⟨g, 5, none⟩ (.string ⟨#[120]⟩))) := Lib.hid (HB.out.setCell hgs _)
  go_upto_region 4 with fail
  obtain ⟨x2, hx2⟩ : ∃ x2, x2 = x1.setCell ⟨g, 5, none⟩ (.string ⟨#[120]⟩) := ⟨_, rfl⟩
  rw [← hx2] at HRb HBb ⊢
  clear hx2 c5 f5
  have hB0 : (8 : Int) < (B.size : Int) := by omega
  have hBd : decide ((8 : Int) < (B.size : Int)) = true := by simp; omega
  go_wp2_with (refine wpList_load_wanted (by rfl) 32 _ rfl _ 0 rfl (msC exB) _ HRb.out Tryd.underlying32 rfl (infoMs exB) ?_)
  refine (HVb.out _).mono ?_
  rintro e w4 ⟨rfl, b4⟩
  have B4 := Lib.hid (bon HBb.out b4)
  clear b4
  go_wp2_with fail
  refine (HAsk.out _).mono ?_
  rintro e w5 ⟨rfl, b5⟩
  have B5 := Lib.hid (bon B4.out b5)
  clear b5
  have HS5 := Lib.hid (HSh.out w5 B5.out)
  go_wp2_with fail
  refine HS5.out.mono ?_
  rintro e w6 ⟨rfl, b6⟩
  have B6 := Lib.hid (bon B5.out b6)
  clear b6
  unfold showT
  go_wp2_with fail
  go_ret
  exact ret_bl rfl B6.out
end Go.Proofs.YtoehakekjlebdaaDoor
