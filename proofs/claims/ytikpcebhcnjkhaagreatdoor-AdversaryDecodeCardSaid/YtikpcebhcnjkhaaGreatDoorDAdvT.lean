/- The contract of state.add. -/
import Derived.StillTailTactics
import Derived.Deep.Cut
import Derived.Deep.CutRange
import Derived.Test.YtikpcebhcnjkhaaGreatDoorDPl
import Derived.Test.YtikpcebhcnjkhaaGreatDoorDA4
namespace Go.Proofs.YtikpcebhcnjkhaaGreatDoor
open Go.RowKit
theorem Ar.zero (w : World) (n : Nat) (T : TypeId) : Ar (w.alloc (.cells (zeroW n).toArray T)) w.heap.size n := Ar.vz (Vz.new w (zeroW n) T) n (by simp [zeroW]) (fun j hj => ⟨0, by simp [zeroW, hj]⟩)
theorem eight_at (s0 s1 s2 s3 s4 s5 s6 s7 : Int) : ∀ j, j < 8 → ∃ v : Int, ([.int .u32 s0, .int .u32 s1, .int .u32 s2, .int .u32 s3, .int .u32 s4, .int .u32 s5, .int .u32 s6, .int .u32 s7] : List Value)[j]? = some (.int .u32 v)
 | 0, _ => ⟨s0, rfl⟩
 | 1, _ => ⟨s1, rfl⟩
 | 2, _ => ⟨s2, rfl⟩
 | 3, _ => ⟨s3, rfl⟩
 | 4, _ => ⟨s4, rfl⟩
 | 5, _ => ⟨s5, rfl⟩
 | 6, _ => ⟨s6, rfl⟩
 | 7, _ => ⟨s7, rfl⟩
 | _ + 8, h => absurd h (by omega)
theorem idx_word (KL : List Value) (k : Nat) (c : Int) (_hl : KL.length = 64) (h : KL[k]? = some (.int .u32 c)) (hk : k < 64) (W : World) : (Instr.index 233 (.agg KL.toArray) (.int .i64 (k : Int))).run Tryz.prog W = .ok (.int .u32 c) W := by
 have hu := Tryz.underlying233
 have i0 : (0 : Int) ≤ (k : Int) := by omega
 have i1 : (k : Int) < 64 := by omega
 have h2 : KL.toArray[k]? = some (.int .u32 c) := by simpa using h
 have hs := Tryz.sizeOf167
 have ha := Tryz.isAgg167
 simp [Instr.index, run_underlying hu, asIntOf, part, go_sem, hs, ha, h, hk]
theorem off_ne (b : Nat) {i j : Nat} (h : i ≠ j) : (⟨b, i, none⟩ : Addr) ≠ ⟨b, j, none⟩ := fun e => h (by injection e)
theorem Ar.sets8 {W : World} {B vb : Nat} {n : Nat} (h : Ar W B n) (hne : B < vb) (v0 v1 v2 v3 v4 v5 v6 v7 : Value) : Ar ((((((((W.setCell ⟨vb, 0, none⟩ v0).setCell ⟨vb, 1, none⟩ v1).setCell ⟨vb, 2, none⟩ v2).setCell ⟨vb, 3, none⟩ v3).setCell ⟨vb, 4, none⟩ v4).setCell ⟨vb, 5, none⟩ v5).setCell ⟨vb, 6, none⟩ v6).setCell ⟨vb, 7, none⟩ v7) B n :=
 have hv : some vb ≠ some B := by simp; omega
 (((((((h.grown (grown_set _ ⟨vb, 0, none⟩ _) hv).grown (grown_set _ ⟨vb, 1, none⟩ _) hv).grown (grown_set _ ⟨vb, 2, none⟩ _) hv).grown (grown_set _ ⟨vb, 3, none⟩ _) hv).grown (grown_set _ ⟨vb, 4, none⟩ _) hv).grown (grown_set _ ⟨vb, 5, none⟩ _) hv).grown (grown_set _ ⟨vb, 6, none⟩ _) hv).grown (grown_set _ ⟨vb, 7, none⟩ _) hv
theorem below8 {b0 vb : Nat} {w W : World} (h : Below b0 w W) (hb : b0 ≤ vb) (v0 v1 v2 v3 v4 v5 v6 v7 : Value) : Below b0 w ((((((((W.setCell ⟨vb, 0, none⟩ v0).setCell ⟨vb, 1, none⟩ v1).setCell ⟨vb, 2, none⟩ v2).setCell ⟨vb, 3, none⟩ v3).setCell ⟨vb, 4, none⟩ v4).setCell ⟨vb, 5, none⟩ v5).setCell ⟨vb, 6, none⟩ v6).setCell ⟨vb, 7, none⟩ v7) :=
 (((((((h.setCell (p := ⟨vb, 0, none⟩) hb v0).setCell (p := ⟨vb, 1, none⟩) hb v1).setCell (p := ⟨vb, 2, none⟩) hb v2).setCell (p := ⟨vb, 3, none⟩) hb v3).setCell (p := ⟨vb, 4, none⟩) hb v4).setCell (p := ⟨vb, 5, none⟩) hb v5).setCell (p := ⟨vb, 6, none⟩) hb v6).setCell (p := ⟨vb, 7, none⟩) hb v7
def RetAdd (b : Nat) (w : World) (e : Ending) (w' : World) : Prop := e = .returned (.tuple #[]) ∧ w.grownBy w' (some b) ∧ Ar w' b 8 ∧ ∀ j, 8 ≤ j → w'.cell? ⟨b, j, none⟩ = w.cell? ⟨b, j, none⟩ ∧ w'.frozen? ⟨b, j, none⟩ = w.frozen? ⟨b, j, none⟩
set_option maxRecDepth 100000 in
set_option maxHeartbeats 8000000 in
theorem add_any (b : Nat) (s : ByteArray) (w : World) (ha : Ar w b 8) (hs : 64 ≤ s.size) (hm : s.size ≤ 9223372036854775807) : Calls Tryz.prog 146 #[.pointer (some ⟨b, 0, none⟩), .string s] w (RetAdd b w) := by
 have HA := hD ha
 have HW0 := hD (Ar.zero w 64 233)
 have HB0 := hD (below_new w (.cells (zeroW 64).toArray 233))
 clear ha
 go_enter Tryz.func146, Tryz.ntmps146
 go_wp2_with fail
 go_loopw [17] (fun i wr => ∃ k : Nat, i = .int .i64 k ∧ k ≤ 16 ∧ Ar wr w.heap.size 64 ∧ Below w.heap.size w wr) (fun i _ => 16 - (intOf i).toNat)
 case atStart => exact ⟨0, rfl, by omega, HW0.out, HB0.out⟩
 case round =>
  obtain ⟨k, rfl, hk, har, hbl⟩ := hrel
  have HR := hD har
  have HB := hD hbl
  clear har hbl
  by_cases hlt : k < 16
  · have i0' : (0 : Int) ≤ (k : Int) := by omega
    have i1 : (k : Int) < 16 := by omega
    have i64 : (k : Int) < 64 := by omega
    have HR2 := hD (HR.out.below (Below.refl _ _).drew)
    have HB2 := hD HB.out.drew
    go_wp2_with fail
    obtain ⟨p0, hp0⟩ : ∃ p0 : Nat, p0 = 4 * k := ⟨_, rfl⟩
    have e0 : IntKind.i64.wrap (4 * (k : Int)) = (p0 : Int) := by rw [IntWalk.i64_in _ (by omega)]; omega
    obtain ⟨p1, hp1⟩ : ∃ p1 : Nat, p1 = p0 + 1 := ⟨_, rfl⟩
    have e1 : IntKind.i64.wrap ((p0 : Int) + 1) = (p1 : Int) := by rw [IntWalk.i64_in _ (by omega)]; omega
    obtain ⟨p2, hp2⟩ : ∃ p2 : Nat, p2 = p0 + 2 := ⟨_, rfl⟩
    have e2 : IntKind.i64.wrap ((p0 : Int) + 2) = (p2 : Int) := by rw [IntWalk.i64_in _ (by omega)]; omega
    obtain ⟨p3, hp3⟩ : ∃ p3 : Nat, p3 = p0 + 3 := ⟨_, rfl⟩
    have e3 : IntKind.i64.wrap ((p0 : Int) + 3) = (p3 : Int) := by rw [IntWalk.i64_in _ (by omega)]; omega
    have s0 : p0 < s.size := by omega
    have s1 : p1 < s.size := by omega
    have s2 : p2 < s.size := by omega
    have s3 : p3 < s.size := by omega
    clear hp0 hp1 hp2 hp3
    refine wp_region_still_tail 31 (by kernel_rfl) (by kernel_rfl) ?_
    simp only [List.take_succ_cons, List.take_zero, List.drop_succ_cons, List.drop_zero]
    repeat (first | still_step)
    try refine wpStill_nil ?_
    clear e0 e1 e2 e3
    change wpList _ _ _ _ _ wr.drew
    generalize wr.drew = w3 at HR2 HB2 ⊢
    obtain ⟨u, hu⟩ := HR2.out.cells k (by omega)
    have fk := HR2.out.free k (by omega)
    have lk := HR2.out.lt
    go_wp2_with fail
    go_roundw
    case rel => exact ⟨k + 1, by go_num, by omega, HR2.out.set k _, HB2.out.setCell (Nat.le_refl _) _⟩
    case measure => simp [intOf]; omega
  · have j1 : (16 : Int) ≤ (k : Int) := by omega
    have j2 : ¬ (k : Int) < 16 := by omega
    clear hlt hk
    go_wp2_with fail
    clear j1 j2
    go_loopw [6, 7, 8] (fun i _ _ wr => ∃ k : Nat, i = .int .i64 k ∧ 16 ≤ k ∧ k ≤ 64 ∧ Ar wr w.heap.size 64 ∧ Below w.heap.size w wr) (fun i _ _ _ => 64 - (intOf i).toNat)
    case atStart => exact ⟨16, rfl, by omega, by omega, HR.out, HB.out⟩
    case round =>
     rename World => wy
     obtain ⟨k, rfl, hk16, hk, har, hbl⟩ := hrel
     have HY := hD har
     have HC := hD hbl
     clear har hbl
     by_cases hlt : k < 64
     · have i0' : (0 : Int) ≤ (k : Int) := by omega
       have i1 : (k : Int) < 64 := by omega
       obtain ⟨p15, hp15⟩ : ∃ p : Nat, p + 15 = k := ⟨k - 15, by omega⟩
       obtain ⟨p2, hp2⟩ : ∃ p : Nat, p + 2 = k := ⟨k - 2, by omega⟩
       obtain ⟨p16, hp16⟩ : ∃ p : Nat, p + 16 = k := ⟨k - 16, by omega⟩
       obtain ⟨p7, hp7⟩ : ∃ p : Nat, p + 7 = k := ⟨k - 7, by omega⟩
       obtain ⟨x, hx⟩ := HY.out.cells p15 (by omega)
       obtain ⟨y, hy⟩ := HY.out.cells p2 (by omega)
       obtain ⟨z, hz⟩ := HY.out.cells p16 (by omega)
       obtain ⟨u, hu⟩ := HY.out.cells p7 (by omega)
       have lk := HY.out.lt
       have q15 : (p15 : Int) < 64 := by omega
       have q2 : (p2 : Int) < 64 := by omega
       have q16 : (p16 : Int) < 64 := by omega
       have q7 : (p7 : Int) < 64 := by omega
       have n15 : (0 : Int) ≤ (p15 : Int) := by omega
       have n2 : (0 : Int) ≤ (p2 : Int) := by omega
       have n16 : (0 : Int) ≤ (p16 : Int) := by omega
       have n7 : (0 : Int) ≤ (p7 : Int) := by omega
       have e15 : IntKind.i64.wrap ((k : Int) - 15) = (p15 : Int) := by rw [IntWalk.i64_in _ (by omega)]; omega
       have e2 : IntKind.i64.wrap ((k : Int) - 2) = (p2 : Int) := by rw [IntWalk.i64_in _ (by omega)]; omega
       have e16 : IntKind.i64.wrap ((k : Int) - 16) = (p16 : Int) := by rw [IntWalk.i64_in _ (by omega)]; omega
       have e7 : IntKind.i64.wrap ((k : Int) - 7) = (p7 : Int) := by rw [IntWalk.i64_in _ (by omega)]; omega
       have d15 : (k : Int) - 15 = (p15 : Int) := by omega
       have d2 : (k : Int) - 2 = (p2 : Int) := by omega
       have d16 : (k : Int) - 16 = (p16 : Int) := by omega
       have d7 : (k : Int) - 7 = (p7 : Int) := by omega
       obtain ⟨r7, h7⟩ := rot_some 7 (by simp) x
       obtain ⟨r18, h18⟩ := rot_some 18 (by simp) x
       obtain ⟨r17, h17⟩ := rot_some 17 (by simp) y
       obtain ⟨r19, h19⟩ := rot_some 19 (by simp) y
       have H7 := hD h7
       have H18 := hD h18
       have H17 := hD h17
       have H19 := hD h19
       clear h7 h18 h17 h19 hp15 hp2 hp16 hp7 d15 d2 d16 d7
       go_wp2_with fail
       go_quiet (fail)
       rename_i nq
       have HY2 := hD (HY.out.below (bdN (Below.refl _ _) nq))
       have HC2 := hD (bdN HC.out nq)
       have hz2 : (wy.drewN nq).cell? ⟨w.heap.size, p16, none⟩ = some (.int .u32 z) := hz
       have hu2 : (wy.drewN nq).cell? ⟨w.heap.size, p7, none⟩ = some (.int .u32 u) := hu
       generalize wy.drewN nq = wq at HY2 HC2 hz2 hu2 ⊢
       have lq := HY2.out.lt
       go_wp2_with fail
       refine wp_region_still_tail 29 (by kernel_rfl) (by kernel_rfl) ?_
       simp only [List.take_succ_cons, List.take_zero, List.drop_succ_cons, List.drop_zero]
       repeat (first | still_step | still_call (H7.out _) | still_call (H18.out _) | still_call (H17.out _) | still_call (H19.out _))
       try refine wpStill_nil ?_
       clear e15 e2 e16 e7 hx hy hz hu hz2 hu2
       have HY3 := hD (HY2.out.below (Below.refl _ _).drew)
       have HC3 := hD HC2.out.drew
       change wpList _ _ _ _ _ wq.drew
       generalize wq.drew = w3 at HY3 HC3 ⊢
       obtain ⟨v, hv⟩ := HY3.out.cells k (by omega)
       have fk := HY3.out.free k (by omega)
       have lk := HY3.out.lt
       go_wp2_with fail
       go_roundw
       case rel => exact ⟨k + 1, by go_num, by omega, by omega, HY3.out.set k _, HC3.out.setCell (Nat.le_refl _) _⟩
       case measure => simp [intOf]; omega
     · have j1 : (64 : Int) ≤ (k : Int) := by omega
       have j2 : ¬ (k : Int) < 64 := by omega
       clear hlt hk hk16
       obtain ⟨s0, a0⟩ := HA.out.cells 0 (by omega)
       obtain ⟨s1, a1⟩ := HA.out.cells 1 (by omega)
       obtain ⟨s2, a2⟩ := HA.out.cells 2 (by omega)
       obtain ⟨s3, a3⟩ := HA.out.cells 3 (by omega)
       obtain ⟨s4, a4⟩ := HA.out.cells 4 (by omega)
       obtain ⟨s5, a5⟩ := HA.out.cells 5 (by omega)
       obtain ⟨s6, a6⟩ := HA.out.cells 6 (by omega)
       obtain ⟨s7, a7⟩ := HA.out.cells 7 (by omega)
       have lb := HA.out.lt
       have b0 := (HC.out.cell (p := ⟨b, 0, none⟩) lb).trans a0
       have b1 := (HC.out.cell (p := ⟨b, 1, none⟩) lb).trans a1
       have b2 := (HC.out.cell (p := ⟨b, 2, none⟩) lb).trans a2
       have b3 := (HC.out.cell (p := ⟨b, 3, none⟩) lb).trans a3
       have b4 := (HC.out.cell (p := ⟨b, 4, none⟩) lb).trans a4
       have b5 := (HC.out.cell (p := ⟨b, 5, none⟩) lb).trans a5
       have b6 := (HC.out.cell (p := ⟨b, 6, none⟩) lb).trans a6
       have b7 := (HC.out.cell (p := ⟨b, 7, none⟩) lb).trans a7
       have lw : b < wy.heap.size := Nat.lt_of_lt_of_le lb HC.out.size
       have HV : Hid (Ar (wy.alloc (.cells #[.int .u32 s0, .int .u32 s1, .int .u32 s2, .int .u32 s3, .int .u32 s4, .int .u32 s5, .int .u32 s6, .int .u32 s7] 213)) wy.heap.size 8) := hD (Ar.vz (Vz.new wy [.int .u32 s0, .int .u32 s1, .int .u32 s2, .int .u32 s3, .int .u32 s4, .int .u32 s5, .int .u32 s6, .int .u32 s7] 213) 8 (Nat.le_refl _) (eight_at s0 s1 s2 s3 s4 s5 s6 s7))
       have HY9 := hD (HY.out.below (below_new wy (.cells #[.int .u32 s0, .int .u32 s1, .int .u32 s2, .int .u32 s3, .int .u32 s4, .int .u32 s5, .int .u32 s6, .int .u32 s7] 213)))
       have HC9 := hD (bon HC.out (below_new wy (.cells #[.int .u32 s0, .int .u32 s1, .int .u32 s2, .int .u32 s3, .int .u32 s4, .int .u32 s5, .int .u32 s6, .int .u32 s7] 213)))
       clear a0 a1 a2 a3 a4 a5 a6 a7
       go_upto_region 12 with fail
       clear b0 b1 b2 b3 b4 b5 b6 b7 lw
       generalize wy.alloc (.cells #[.int .u32 s0, .int .u32 s1, .int .u32 s2, .int .u32 s3, .int .u32 s4, .int .u32 s5, .int .u32 s6, .int .u32 s7] 213) = w9 at HV HY9 HC9 ⊢
       have hvb : w.heap.size < wy.heap.size := HY.out.lt
       have HVB : Hid (w.heap.size < wy.heap.size) := hD hvb
       generalize wy.heap.size = vb at HV HVB ⊢
       clear hvb
       have HK := hD (constants_any w9)
       go_wp2_with fail
       refine HK.out.mono ?_
       rintro e w8 ⟨KL, rfl, hkl, hkv, hb8⟩
       have HV8 := hD (HV.out.below hb8)
       have HY8 := hD (HY9.out.below hb8)
       have HC8 := hD (bon HC9.out hb8)
       have HKL := hD hkl
       have HKV := hD hkv
       clear hkl hkv hb8
       go_wp2_with fail
       go_loopw [97, 10, 11, 12, 13, 14, 15] (fun i _ _ _ _ _ _ wr => ∃ k : Nat, i = .int .i64 k ∧ k ≤ 64 ∧ Ar wr vb 8 ∧ Ar wr w.heap.size 64 ∧ Below w.heap.size w wr) (fun i _ _ _ _ _ _ _ => 64 - (intOf i).toNat)
       case atStart => exact ⟨0, rfl, by omega, HV8.out, HY8.out, HC8.out⟩
       case round =>
        rename World => wz
        obtain ⟨k, rfl, hk, hav, har, hbl⟩ := hrel
        have HV := hD hav
        have HY := hD har
        have HC := hD hbl
        clear hav har hbl
        by_cases hlt : k < 64
        · have i0' : (0 : Int) ≤ (k : Int) := by omega
          have i1 : (k : Int) < 64 := by omega
          obtain ⟨c, hc⟩ := HKV.out k hlt
          have hix := idx_word KL k c HKL.out hc hlt
          clear hc
          obtain ⟨e0, c0⟩ := HV.out.cells 0 (by omega)
          obtain ⟨e1, c1⟩ := HV.out.cells 1 (by omega)
          obtain ⟨e2, c2⟩ := HV.out.cells 2 (by omega)
          obtain ⟨e3, c3⟩ := HV.out.cells 3 (by omega)
          obtain ⟨e4, c4⟩ := HV.out.cells 4 (by omega)
          obtain ⟨e5, c5⟩ := HV.out.cells 5 (by omega)
          obtain ⟨e6, c6⟩ := HV.out.cells 6 (by omega)
          obtain ⟨e7, c7⟩ := HV.out.cells 7 (by omega)
          obtain ⟨wk, cw⟩ := HY.out.cells k hlt
          have lv := HV.out.lt
          have lw := HY.out.lt
          obtain ⟨r6, h6⟩ := rot_some 6 (by simp) e4
          obtain ⟨r11, h11⟩ := rot_some 11 (by simp) e4
          obtain ⟨r25, h25⟩ := rot_some 25 (by simp) e4
          obtain ⟨r2, h2⟩ := rot_some 2 (by simp) e0
          obtain ⟨r13, h13⟩ := rot_some 13 (by simp) e0
          obtain ⟨r22, h22⟩ := rot_some 22 (by simp) e0
          have H6 := hD h6
          have H11 := hD h11
          have H25 := hD h25
          have H2 := hD h2
          have H13 := hD h13
          have H22 := hD h22
          clear h6 h11 h25 h2 h13 h22
          go_wp2_with fail
          go_quiet (fail)
          rename_i nq
          have HV := hD (HV.out.below (bdN (Below.refl wz.heap.size wz) nq))
          have HY := hD (HY.out.below (bdN (Below.refl wz.heap.size wz) nq))
          have HC := hD (bdN HC.out nq)
          have c0 : World.cell? (wz.drewN nq) ⟨vb, 0, none⟩ = some (.int .u32 e0) := c0
          have c1 : World.cell? (wz.drewN nq) ⟨vb, 1, none⟩ = some (.int .u32 e1) := c1
          have c2 : World.cell? (wz.drewN nq) ⟨vb, 2, none⟩ = some (.int .u32 e2) := c2
          have c3 : World.cell? (wz.drewN nq) ⟨vb, 3, none⟩ = some (.int .u32 e3) := c3
          have c4 : World.cell? (wz.drewN nq) ⟨vb, 4, none⟩ = some (.int .u32 e4) := c4
          have c5 : World.cell? (wz.drewN nq) ⟨vb, 5, none⟩ = some (.int .u32 e5) := c5
          have c6 : World.cell? (wz.drewN nq) ⟨vb, 6, none⟩ = some (.int .u32 e6) := c6
          have c7 : World.cell? (wz.drewN nq) ⟨vb, 7, none⟩ = some (.int .u32 e7) := c7
          have cw : World.cell? (wz.drewN nq) ⟨w.heap.size, k, none⟩ = some (.int .u32 wk) := cw
          generalize wz.drewN nq = wq at HV HY HC c0 c1 c2 c3 c4 c5 c6 c7 cw ⊢
          have lv := HV.out.lt
          have lw := HY.out.lt
          go_wp2_with fail
          go_quiet ((first | (go_at_call 163; exact Calls.quiet_of_same (H6.out _)) | (go_at_call 163; exact Calls.quiet_of_same (H11.out _)) | (go_at_call 163; exact Calls.quiet_of_same (H25.out _))))
          rename_i nq
          have HV := hD (HV.out.below (bdN (Below.refl wq.heap.size wq) nq))
          have HY := hD (HY.out.below (bdN (Below.refl wq.heap.size wq) nq))
          have HC := hD (bdN HC.out nq)
          have c0 : World.cell? (wq.drewN nq) ⟨vb, 0, none⟩ = some (.int .u32 e0) := c0
          have c1 : World.cell? (wq.drewN nq) ⟨vb, 1, none⟩ = some (.int .u32 e1) := c1
          have c2 : World.cell? (wq.drewN nq) ⟨vb, 2, none⟩ = some (.int .u32 e2) := c2
          have c3 : World.cell? (wq.drewN nq) ⟨vb, 3, none⟩ = some (.int .u32 e3) := c3
          have c4 : World.cell? (wq.drewN nq) ⟨vb, 4, none⟩ = some (.int .u32 e4) := c4
          have c5 : World.cell? (wq.drewN nq) ⟨vb, 5, none⟩ = some (.int .u32 e5) := c5
          have c6 : World.cell? (wq.drewN nq) ⟨vb, 6, none⟩ = some (.int .u32 e6) := c6
          have c7 : World.cell? (wq.drewN nq) ⟨vb, 7, none⟩ = some (.int .u32 e7) := c7
          have cw : World.cell? (wq.drewN nq) ⟨w.heap.size, k, none⟩ = some (.int .u32 wk) := cw
          generalize wq.drewN nq = wp at HV HY HC c0 c1 c2 c3 c4 c5 c6 c7 cw ⊢
          have lv := HV.out.lt
          have lw := HY.out.lt
          go_wp2_with fail
          go_quiet ((first | (go_at_call 163; exact Calls.quiet_of_same (H2.out _)) | (go_at_call 163; exact Calls.quiet_of_same (H13.out _)) | (go_at_call 163; exact Calls.quiet_of_same (H22.out _))))
          rename_i nq
          have HV := hD (HV.out.below (bdN (Below.refl wp.heap.size wp) nq))
          have HY := hD (HY.out.below (bdN (Below.refl wp.heap.size wp) nq))
          have HC := hD (bdN HC.out nq)
          have c0 : World.cell? (wp.drewN nq) ⟨vb, 0, none⟩ = some (.int .u32 e0) := c0
          have c1 : World.cell? (wp.drewN nq) ⟨vb, 1, none⟩ = some (.int .u32 e1) := c1
          have c2 : World.cell? (wp.drewN nq) ⟨vb, 2, none⟩ = some (.int .u32 e2) := c2
          have c3 : World.cell? (wp.drewN nq) ⟨vb, 3, none⟩ = some (.int .u32 e3) := c3
          have c4 : World.cell? (wp.drewN nq) ⟨vb, 4, none⟩ = some (.int .u32 e4) := c4
          have c5 : World.cell? (wp.drewN nq) ⟨vb, 5, none⟩ = some (.int .u32 e5) := c5
          have c6 : World.cell? (wp.drewN nq) ⟨vb, 6, none⟩ = some (.int .u32 e6) := c6
          have c7 : World.cell? (wp.drewN nq) ⟨vb, 7, none⟩ = some (.int .u32 e7) := c7
          have cw : World.cell? (wp.drewN nq) ⟨w.heap.size, k, none⟩ = some (.int .u32 wk) := cw
          generalize wp.drewN nq = wo at HV HY HC c0 c1 c2 c3 c4 c5 c6 c7 cw ⊢
          have lv := HV.out.lt
          have lw := HY.out.lt
          have f0 := HV.out.free 0 (by omega)
          have f1 := HV.out.free 1 (by omega)
          have f2 := HV.out.free 2 (by omega)
          have f3 := HV.out.free 3 (by omega)
          have f4 := HV.out.free 4 (by omega)
          have f5 := HV.out.free 5 (by omega)
          have f6 := HV.out.free 6 (by omega)
          have f7 := HV.out.free 7 (by omega)
          clear cw
          go_wp2_with fail
          go_roundw
          case rel => exact ⟨k + 1, by go_num, by omega, (((((((HV.out.set 0 _).set 1 _).set 2 _).set 3 _).set 4 _).set 5 _).set 6 _).set 7 _, HY.out.sets8 HVB.out _ _ _ _ _ _ _ _, below8 HC.out (Nat.le_of_lt HVB.out) _ _ _ _ _ _ _ _⟩
          case measure => simp [intOf]; omega
        · have j1 : (64 : Int) ≤ (k : Int) := by omega
          have j2 : ¬ (k : Int) < 64 := by omega
          clear hlt hk
          have HB4 : Hid (Ar wz b 8) := hD (HA.out.below HC.out)
          have HG4 : Hid (w.grownBy wz (some b)) := hD (grown_below HC.out _)
          have HS4 : Hid (∀ j, 8 ≤ j → wz.cell? ⟨b, j, none⟩ = w.cell? ⟨b, j, none⟩ ∧ wz.frozen? ⟨b, j, none⟩ = w.frozen? ⟨b, j, none⟩) := hD (fun j _ => ⟨HC.out.cell (p := ⟨b, j, none⟩) HA.out.lt, HC.out.frozen (p := ⟨b, j, none⟩) HA.out.lt⟩)
          have hbv : b ≠ vb := by have := HA.out.lt; have := HVB.out; omega
          have HBV := hD hbv
          clear hbv
          go_wp2_with fail
          go_loopw [178, 16] (fun i _ wr => ∃ k : Nat, i = .int .i64 k ∧ k ≤ 8 ∧ Ar wr vb 8 ∧ Ar wr b 8 ∧ w.grownBy wr (some b) ∧ ∀ j, 8 ≤ j → wr.cell? ⟨b, j, none⟩ = w.cell? ⟨b, j, none⟩ ∧ wr.frozen? ⟨b, j, none⟩ = w.frozen? ⟨b, j, none⟩) (fun i _ _ => 8 - (intOf i).toNat)
          case atStart => exact ⟨0, rfl, by omega, HV.out, HB4.out, HG4.out, HS4.out⟩
          case round =>
           rename World => wn
           obtain ⟨k, rfl, hk, hav, hab, hgr, hsm⟩ := hrel
           have HV := hD hav
           have HB5 := hD hab
           have HG5 := hD hgr
           have HS5 := hD hsm
           clear hav hab hgr hsm
           by_cases hlt : k < 8
           · have i0' : (0 : Int) ≤ (k : Int) := by omega
             have i1 : (k : Int) < 8 := by omega
             obtain ⟨x, hx⟩ := HB5.out.cells k hlt
             obtain ⟨y, hy⟩ := HV.out.cells k hlt
             have lb := HB5.out.lt
             have lv := HV.out.lt
             go_wp2_with fail
             refine wp_region_still_tail 11 (by kernel_rfl) (by kernel_rfl) ?_
             simp only [List.take_succ_cons, List.take_zero, List.drop_succ_cons, List.drop_zero]
             repeat (first | still_step)
             try refine wpStill_nil ?_
             change wpList _ _ _ _ _ wn.drew
             have hx2 : wn.drew.cell? ⟨b, k, none⟩ = some (.int .u32 x) := hx
             have HV2 := hD (HV.out.below (Below.refl _ _).drew)
             have HB6 := hD (HB5.out.below (Below.refl _ _).drew)
             have HG6 := hD (HG5.out.trans (grown_below (Below.refl wn.heap.size wn).drew (some b)))
             have HS6 : Hid (∀ j, 8 ≤ j → wn.drew.cell? ⟨b, j, none⟩ = w.cell? ⟨b, j, none⟩ ∧ wn.drew.frozen? ⟨b, j, none⟩ = w.frozen? ⟨b, j, none⟩) := hD HS5.out
             generalize wn.drew = wm at hx2 HV2 HB6 HG6 HS6 ⊢
             have fx := HB6.out.free k hlt
             have lb := HB6.out.lt
             go_wp2_with fail
             go_roundw
             case rel => exact ⟨k + 1, by go_num, by omega, HV2.out.grown (grown_set _ _ _) (by simpa using HBV.out), HB6.out.set k _, HG6.out.trans (grown_set _ _ _), fun j hj => ⟨(World.cell?_setCell_other _ _ _ _ (off_ne b (by omega))).trans (HS6.out j hj).1, (frz_set _ _ _ _).trans (HS6.out j hj).2⟩⟩
             case measure => simp [intOf]; omega
           · have j1 : (8 : Int) ≤ (k : Int) := by omega
             have j2 : ¬ (k : Int) < 8 := by omega
             go_wp2_with fail
             refine bodyPost_ret (v := .tuple #[]) (by simp [results, Tryz.results146, go_sem]) rfl ⟨rfl, HG5.out, HB5.out, HS5.out⟩
end Go.Proofs.YtikpcebhcnjkhaaGreatDoor
