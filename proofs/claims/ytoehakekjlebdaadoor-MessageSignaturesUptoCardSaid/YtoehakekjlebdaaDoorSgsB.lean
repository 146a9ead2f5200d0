/- The contract of slices.Concat at signatures; what Signatures gives. -/
import Derived.Test.YtoehakekjlebdaaDoorSgsA
namespace Go.Proofs.YtoehakekjlebdaaDoor
open Go.RowKit

/-- all signatures of a message, in order -/
def stSgs (s : St) : List Sg := s.signed :: s.cert.l
def sgsHead (m : Ms) : List Sg := if sgZero m.signed then [] else [m.signed]
def sgsStat (m : Ms) : List Sg := sgsHead m ++ m.statuses.l.flatMap stSgs
def sgsEnt (m : Ms) : List Sg := sgsStat m ++ m.entries.l.flatMap (fun d => d.cert.l)
def sgsProof (m : Ms) : List Sg := sgsEnt m ++ m.snapshot.proof.l
def sgsMs (m : Ms) : List Sg := sgsProof m ++ m.snapshot.chain.l.flatMap (fun h => h.entry.cert.l)
theorem flat_take {α : Type} (f : α → List Sg) (l : List α) (k : Nat) (h : k < l.length) : (l.take (k + 1)).flatMap f = (l.take k).flatMap f ++ f l[k] := by
  rw [List.take_succ_eq_append_getElem h, List.flatMap_append]
  simp
theorem flat_le {α : Type} (f : α → List Sg) (g : α → Nat) (h : ∀ x, 7 * (f x).length ≤ g x) (l : List α) (k : Nat) : 7 * ((l.take k).flatMap f).length ≤ sum g l := by
  induction l generalizing k with
  | nil => simp [sum_nil]
  | cons x r ih =>
    rw [sum_cons]
    cases k with
    | zero => simp
    | succ k =>
      have := ih k
      have := h x
      rw [List.take_succ_cons, List.flatMap_cons, List.length_append]
      omega
theorem st_le (s : St) : 7 * (stSgs s).length ≤ s.sz := by
  have := sum_ge Sg.sz s.cert.l 7 Sg.sz_ge
  have := s.signed.sz_ge
  unfold stSgs St.sz
  rw [List.length_cons]
  omega
theorem de_le (d : De) : 7 * d.cert.l.length ≤ d.sz := by
  have := sum_ge Sg.sz d.cert.l 7 Sg.sz_ge
  unfold De.sz
  omega
theorem ho_le (h : Ho) : 7 * h.entry.cert.l.length ≤ h.sz := by
  have := de_le h.entry
  unfold Ho.sz
  omega
theorem head_le (m : Ms) : (sgsHead m).length ≤ 1 := by unfold sgsHead; split <;> simp
/-- the elements so far -/
def two (a b : List Sg) (k : Nat) : List Sg := if k = 0 then [] else if k = 1 then a else a ++ b
set_option maxRecDepth 100000 in
set_option maxHeartbeats 4000000 in
theorem concat_any (g : Nat) (A : Option Addr) (c : Nat) (l1 : List Sg) (B : Option Addr) (d : Nat) (l2 : List Sg) (w : World) (hg : g < w.heap.size) (p0 : w.cell? ⟨g, 0, none⟩ = some (.slice A l1.length c)) (p1 : w.cell? ⟨g, 1, none⟩ = some (.slice B l2.length d))
    (h1 : Rd w 6 A l1.length (l1.flatMap sgC)) (h2 : Rd w 6 B l2.length (l2.flatMap sgC)) (n : l1.length + l2.length ≤ 16777216) :
    Calls Tryd.prog 32 #[.slice (some ⟨g, 0, none⟩) 2 2] w (RetSgs (l1 ++ l2) w) := by
  have H1 := Lib.hid h1
  have H2 := Lib.hid h2
  have HP : Hid (∀ W, Below w.heap.size w W → W.cell? ⟨g, 0, none⟩ = some (.slice A l1.length c) ∧ W.cell? ⟨g, 1, none⟩ = some (.slice B l2.length d)) := Lib.hid (fun W hb => ⟨(hb.cell (p := ⟨g, 0, none⟩) hg).trans p0, (hb.cell (p := ⟨g, 1, none⟩) hg).trans p1⟩)
  clear h1 h2
  go_enter Tryd.func32, Tryd.ntmps32
  go_wp2_with fail
  go_loop [3, 11] (fun s i => ∃ k : Nat, i = .int .i64 k ∧ k ≤ 2 ∧ s = .int .i64 (two l1 l2 k).length) (fun _ i => 2 - (intOf i).toNat)
  case atStart => exact ⟨0, rfl, by omega, rfl⟩
  case round =>
    obtain ⟨k, rfl, hk, rfl⟩ := hrel
    have hk3 : k = 0 ∨ k = 1 ∨ k = 2 := by omega
    rcases hk3 with rfl | rfl | rfl
    · simp only [two, if_true, List.length_nil]
      go_wp2_with fail
      go_round
      case rel => exact ⟨1, by go_num, by omega, by simp [two]⟩
      case measure => simp [intOf]
    · have ht : (two l1 l2 1).length = l1.length := rfl
      rw [ht]
      go_wp2_with fail
      go_round
      case rel => exact ⟨2, by go_num, by omega, by simp [two]⟩
      case measure => simp [intOf]
    · have ht : (two l1 l2 2).length = l1.length + l2.length := by simp [two]
      rw [ht]
      clear p0 p1
      go_wp2_with fail
      refine (grow_sg (l1.length + l2.length) w (by omega)).mono ?_
      rintro e w1 ⟨A0, c0, rfl, ho, hb⟩
      have HO := Lib.hid ho
      have HB := Lib.hid hb
      clear ho hb
      go_wp2_with fail
      go_loopw [6, 27] (fun o i wr => ∃ (k : Nat) (A2 : Option Addr) (c2 : Nat), i = .int .i64 k ∧ k ≤ 2 ∧ o = .slice A2 (two l1 l2 k).length c2 ∧ OwnSg w.heap.size wr A2 c2 (two l1 l2 k) ∧ Below w.heap.size w wr) (fun _ i _ => 2 - (intOf i).toNat)
      case atStart => exact ⟨0, A0, c0, rfl, by omega, rfl, HO.out, HB.out⟩
      case round =>
        obtain ⟨k, A2, c2, rfl, hk, rfl, ho, hb⟩ := hrel
        have HO2 := Lib.hid ho
        have HB2 := Lib.hid hb
        obtain ⟨p0, p1⟩ := HP.out wr hb
        have hsz := hb.size
        clear ho hb
        have hk3 : k = 0 ∨ k = 1 ∨ k = 2 := by omega
        rcases hk3 with rfl | rfl | rfl
        · go_wp2_with (at_builtin; refine wpList_app_sg rfl _ _ rfl w.heap.size HO2.out rfl rfl (H1.out.below HB2.out) rfl rfl (by show 0 + _ ≤ _; omega) hsz ?_)
          intro A4 c4 w4 ho4 hb4
          have HO4 := Lib.hid ho4
          have HB4 := Lib.hid hb4
          clear ho4 hb4
          go_wp2_with fail
          go_roundw
          case rel => exact ⟨1, A4, c4, by go_num, by omega, by simp [two], HO4.out, HB2.out.trans HB4.out⟩
          case measure => simp [intOf]
        · go_wp2_with (at_builtin; refine wpList_app_sg rfl _ _ rfl w.heap.size HO2.out rfl rfl (H2.out.below HB2.out) rfl rfl (by show l1.length + _ ≤ _; omega) hsz ?_)
          intro A4 c4 w4 ho4 hb4
          have HO4 := Lib.hid ho4
          have HB4 := Lib.hid hb4
          clear ho4 hb4
          go_wp2_with fail
          go_roundw
          case rel => exact ⟨2, A4, c4, by go_num, by omega, by simp [two], HO4.out, HB2.out.trans HB4.out⟩
          case measure => simp [intOf]
        · clear p0 p1
          go_wp2_with fail
          go_ret
          exact ⟨A2, c2, rfl, HO2.out, HB2.out⟩
end Go.Proofs.YtoehakekjlebdaaDoor
