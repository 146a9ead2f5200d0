/- learn: what See learns. -/
import Derived.Deep.Cut
import Derived.Deep.CutRange
import Derived.Test.YtikpcebhcnjkhaaGreatDoorSPl
import Derived.Test.YtikpcebhcnjkhaaGreatDoorSAdvSo
import Derived.Test.YtikpcebhcnjkhaaGreatDoorSAdvSn
import Derived.Test.YtikpcebhcnjkhaaGreatDoorSA3
import Derived.Test.YtikpcebhcnjkhaaGreatDoorSEb
namespace Go.Proofs.YtikpcebhcnjkhaaGreatDoor
open Go.RowKit Q40
noncomputable def learnV (vs : List (List UInt8)) (v : List UInt8) : List (List UInt8) := if (decE v).isSome && decide (vs.length < 30) && !decide (v ∈ vs) then vs ++ [v] else vs
def Sn2 (base b : Nat) (ss : List St) (vs : List (List UInt8)) (w : World) : Prop := b < base ∧ base ≤ w.heap.size ∧ ∃ A c B d, Vz w b [.slice A ss.length c, .slice B vs.length d] ∧ w.ownsRow base 62 12 (.slice A ss.length c) ss.length (ss.flatMap stC) ∧ w.ownsRow base 9 1 (.slice B vs.length d) vs.length (strC vs)
structure Mv (base b : Nat) (w w' : World) : Prop where
 os : w'.os = w.os
 tape : w'.tape = w.tape
 output : w'.output = w.output
 size : w.heap.size ≤ w'.heap.size
 block : ∀ k, k < base → k ≠ b → w'.heap[k]? = w.heap[k]?
section
variable {base b : Nat} {w w1 w2 : World}
theorem Mv.refl (w : World) : Mv base b w w := ⟨rfl, rfl, rfl, Nat.le_refl _, fun _ _ _ => rfl⟩
theorem Mv.trans (h : Mv base b w w1) (k : Mv base b w1 w2) : Mv base b w w2 := ⟨k.os.trans h.os, k.tape.trans h.tape, k.output.trans h.output, Nat.le_trans h.size k.size, fun j h1 h2 => (k.block j h1 h2).trans (h.block j h1 h2)⟩
theorem Mv.below (hb : base ≤ w.heap.size) (h : Below w.heap.size w w1) : Mv base b w w1 := ⟨h.os, h.tape, h.output, h.size, fun j h1 _ => h.block j (Nat.lt_of_lt_of_le h1 hb)⟩
theorem Mv.grown {row : Option Nat} (hb : base ≤ w.heap.size) (h : w.grownBy w1 row) (hr : ∀ g, row = some g → base ≤ g) : Mv base b w w1 := ⟨h.os, h.tape, h.output, h.size, fun j h1 _ => h.block j (Nat.lt_of_lt_of_le h1 hb) (fun e => by have := hr j e.symm; omega)⟩
theorem Mv.grownB (hb : base ≤ w.heap.size) (h : w.grownBy w1 (some b)) : Mv base b w w1 := ⟨h.os, h.tape, h.output, h.size, fun j h1 h2 => h.block j (Nat.lt_of_lt_of_le h1 hb) (fun e => h2 (by injection e))⟩
theorem Mv.low {w0 : World} {B : Nat} (h : Below B w0 w) (k : Mv base b w w1) (h1 : B ≤ base) (h2 : B ≤ b) : Below B w0 w1 := h.trans ⟨k.os, k.tape, k.output, k.size, fun j hj => k.block j (by omega) (by omega)⟩
theorem Mv.cell (h : Mv base b w w1) {p : Addr} (hp : p.block < base) (hne : p.block ≠ b) : w1.cell? p = w.cell? p := by
 unfold World.cell?
 rw [h.block p.block hp hne]
end
theorem Sn2.below {base b : Nat} {ss : List St} {vs : List (List UInt8)} {w w' : World} (h : Sn2 base b ss vs w) (hb : Below w.heap.size w w') : Sn2 base b ss vs w' := by
 obtain ⟨h1, h2, A, c, B, d, hv, ho, hp⟩ := h
 exact ⟨h1, Nat.le_trans h2 hb.size, A, c, B, d, hv.below hb, ownsRow_below ho hb, ownsRow_below hp hb⟩
set_option maxRecDepth 100000 in
set_option maxHeartbeats 4000000 in
theorem learn_any (base b : Nat) (ss : List St) (vs : List (List UInt8)) (v : List UInt8) (w : World) (he : Env w) (hS : Sn2 base b ss vs w) (hv : v.length ≤ 1048576) (hl : vs.length ≤ 1048576) :
    Calls Tryz.prog 40 #[.string ⟨v.toArray⟩, .pointer (some ⟨b, 0, none⟩)] w (fun e w' => e = .returned (.tuple #[]) ∧ Sn2 base b ss (learnV vs v) w' ∧ Mv base b w w') := by
 cases hd : decE v with
 | none =>
  have HD := hD (decode_none v w he hv hd)
  have HV : Hid (learnV vs v = vs) := hD (by unfold learnV; rw [hd]; rfl)
  have HS := hD hS
  clear hd hS he
  go_enter Tryz.func40, Tryz.ntmps40
  go_wp2_with fail
  refine HD.out.mono ?_
  rintro e w1 ⟨rfl, hb⟩
  have hb2 := bon hb (below_new w1 (.cells #[.int .i64 0, .int .i64 0, .slice none 0 0] 95))
  have HS2 := hD (HS.out.below hb2)
  have HM := hD (Mv.below (b := b) HS.out.2.1 hb2)
  clear hb hb2
  go_wp2_with fail
  refine bodyPost_end (v := .tuple #[]) (by simp [results, Tryz.results40, go_sem]) rfl ⟨rfl, by rw [HV.out]; exact HS2.out, HM.out⟩
 | some x =>
  have HD := hD (decode_some v w he hv x hd)
  have HV : Hid (learnV vs v = if (decide (vs.length < 30) && !decide (v ∈ vs)) = true then vs ++ [v] else vs) := hD (by unfold learnV; rw [hd]; rfl)
  have HS := hD hS
  clear hd hS he
  go_enter Tryz.func40, Tryz.ntmps40
  go_wp2_with fail
  refine HD.out.mono ?_
  rintro e w1 ⟨A9, c9, ⟨rfl, _⟩, hb⟩
  obtain ⟨bc, hbc⟩ : ∃ bc : Array Value, bc = #[.int .i64 x.kind, .int .i64 x.cfg, .slice A9 x.rs.length c9] := ⟨_, rfl⟩
  have hb2 := bon hb (below_new w1 (.cells #[.int .i64 x.kind, .int .i64 x.cfg, .slice A9 x.rs.length c9] 95))
  have HS2 := hD (HS.out.below hb2)
  have HM := hD (Mv.below (b := b) HS.out.2.1 hb2)
  clear hb hb2 hbc
  go_upto_region 1 with fail
  generalize w1.alloc (.cells #[.int .i64 x.kind, .int .i64 x.cfg, .slice A9 x.rs.length c9] 95) = w2 at HS2 HM ⊢
  obtain ⟨s1, s2, A, c, B, d, hvz, ho, hp⟩ := HS2.out
  have HZ := hD hvz
  have HO := hD ho
  have HP := hD hp
  have c0 := hvz.cells 0 _ rfl
  have c1 := hvz.cells 1 _ rfl
  have lv := hvz.lt
  clear hvz ho hp
  by_cases h30 : vs.length < 30
  · have h31 : (vs.length : Int) < 30 := by omega
    have HC := hD (hasStr_any B d vs v w2 (Rd.own HP.out) (by omega))
    by_cases hin : v ∈ vs
    · have HV2 : Hid (learnV vs v = vs) := hD (by rw [HV.out, decide_eq_true hin]; simp)
      rw [decide_eq_true hin] at HC
      clear hin h30
      go_wp2_with fail
      refine HC.out.mono ?_
      rintro e w3 ⟨rfl, rfl⟩
      go_wp2_with fail
      refine bodyPost_end (v := .tuple #[]) (by simp [results, Tryz.results40, go_sem]) rfl ⟨rfl, by rw [HV2.out]; exact HS2.out, HM.out⟩
    · have HV2 : Hid (learnV vs v = vs ++ [v]) := hD (by rw [HV.out, decide_eq_true h30, decide_eq_false hin]; rfl)
      rw [decide_eq_false hin] at HC
      clear hin h30
      go_wp2_with fail
      refine HC.out.mono ?_
      rintro e w3 ⟨rfl, rfl⟩
      go_wp2_with (at_builtin; refine wpList_apg elemS rfl _ _ rfl base rfl (HP.out.alloc _) rfl (rd_new w2 1 1 [.string ⟨v.toArray⟩] _ (by rfl)) (by simp [Value.oneCell']) (by omega) (by omega) (by simp; omega) ?_)
      intro B' d' w4 hown hgr
      have hal := below_new w2 (.cells #[.string ⟨v.toArray⟩] 9)
      have hlt : ∀ g, (Value.slice B vs.length d).ownBlock = some g → base ≤ g := fun g hg => (HP.out.lt g hg).1
      have HZ4 := hD ((HZ.out.below hal).grown hgr (fun e => by have := hlt b e; omega))
      have HO4 : Hid (w4.ownsRow base 62 12 (.slice A ss.length c) ss.length (ss.flatMap stC)) := hD (own_kept (HO.out.alloc _) hgr (fun g hg => own_apart HO.out HP.out (by decide) g hg))
      have HP4 : Hid (w4.ownsRow base 9 1 (.slice B' (vs ++ [v]).length d') (vs ++ [v]).length (strC (vs ++ [v]))) := hD (by simpa [strC] using hown)
      have HM4 := hD ((HM.out.trans (Mv.below s2 hal)).trans (Mv.grown (by simp; omega) hgr hlt))
      have hsz4 : base ≤ w4.heap.size := Nat.le_trans s2 (Nat.le_trans hal.size hgr.size)
      have f1 := HZ4.out.free 1 (by simp)
      have d1 := HZ4.out.cells 1 _ rfl
      have l4 := HZ4.out.lt
      clear hown hgr hal hlt c0 c1 lv
      go_wp2_with fail
      refine bodyPost_end (v := .tuple #[]) (by simp [results, Tryz.results40, go_sem]) rfl ⟨rfl, ?_, HM4.out.trans (Mv.grownB hsz4 (grown_set _ ⟨b, 1, none⟩ _))⟩
      rw [HV2.out]
      refine ⟨s1, by simpa using hsz4, A, c, B', d', ?_, own_far HO4.out _ _ s1, own_far HP4.out _ _ s1⟩
      have h9 := HZ4.out.set 1 (.slice B' (vs ++ [v]).length d')
      simpa using h9
  · have h31 : ¬ (vs.length : Int) < 30 := by omega
    have h32 : decide (vs.length < 30) = false := decide_eq_false h30
    have HV2 : Hid (learnV vs v = vs) := hD (by rw [HV.out, h32]; simp)
    clear h30
    go_wp2_with fail
    refine bodyPost_end (v := .tuple #[]) (by simp [results, Tryz.results40, go_sem]) rfl ⟨rfl, by rw [HV2.out]; exact HS2.out, HM.out⟩
end Go.Proofs.YtikpcebhcnjkhaaGreatDoor
