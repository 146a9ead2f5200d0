/- The values that every liar knows. -/
import Derived.Deep.Cut
import Derived.Shelf.Spec.SlicesGrow
import Derived.Deep.CutRange
import Derived.Test.YtikpcebhcnjkhaaGreatDoorDPl
import Derived.Test.YtikpcebhcnjkhaaGreatDoorDA3
import Derived.Test.YtikpcebhcnjkhaaGreatDoorDEa
import Derived.Test.YtikpcebhcnjkhaaGreatDoorDWa
namespace Go.Proofs.YtikpcebhcnjkhaaGreatDoor
open Go.RowKit Q40
def kindK (k : Nat) : Int := if k = 0 then 3 else 2
def RetFive (w : World) (e : Ending) (w' : World) : Prop := ∃ A c, ∃ l : List (List UInt8), e = .returned (.slice A 5 c) ∧ l.length = 5 ∧ (∀ x ∈ l, x.length ≤ 100) ∧ Rd w' 1 A 5 (strC l) ∧ Below w.heap.size w w'
def entC : List Value := [.int .i64 3, .int .i64 0, .slice none 0 0, .int .i64 2, .int .i64 1, .slice none 0 0, .int .i64 2, .int .i64 2, .slice none 0 0, .int .i64 2, .int .i64 3, .slice none 0 0]
theorem enc_some (k : Nat) (hk : k < 4) : ∃ s : List UInt8, s.length ≤ 100 ∧ ∀ w, EnvP w → Calls Tryz.prog 110 #[.agg #[.int .i64 (kindK k), .int .i64 (k : Int), .slice none 0 0]] w (RetStrErr s 0 w) := by
 have hv : vEn ⟨kindK k, (k : Int), []⟩ = 0 ∧ (encE ⟨kindK k, (k : Int), []⟩).length ≤ 100 := by
  match k, hk with
  | 0, _ => decide +kernel
  | 1, _ => decide +kernel
  | 2, _ => decide +kernel
  | 3, _ => decide +kernel
 refine ⟨encE ⟨kindK k, (k : Int), []⟩, hv.2, fun w he => ?_⟩
 have h := enEncode_any (kindK k) (k : Int) [] none 0 w he ⟨Rd.nil _ _ _, by simp, by simp, by simp, by simp⟩ (by simp) (by intro r hr; simp at hr) ⟨by omega, by omega⟩
 rw [hv.1] at h
 exact h
theorem ent_at : ∀ k, k < 4 → entC[k * 3]? = some (.int .i64 (kindK k)) ∧ entC[k * 3 + 1]? = some (.int .i64 (k : Int)) ∧ entC[k * 3 + 2]? = some (.slice none 0 0)
 | 0, _ => ⟨rfl, rfl, rfl⟩
 | 1, _ => ⟨rfl, rfl, rfl⟩
 | 2, _ => ⟨rfl, rfl, rfl⟩
 | 3, _ => ⟨rfl, rfl, rfl⟩
 | _ + 4, h => absurd h (by omega)
set_option maxRecDepth 100000 in
set_option maxHeartbeats 2000000 in
theorem fixed_any (w : World) (he : EnvP w) : Calls Tryz.prog 76 #[] w (RetFive w) := by
 have HN := hD (noop_any w he)
 have HE := hD he
 have hl0 : (valE noop).length ≤ 100 := by decide +kernel
 have HL0 := hD hl0
 clear he hl0
 go_enter Tryz.func76, Tryz.ntmps76
 go_wp2_with fail
 refine HN.out.mono ?_
 rintro e w1 ⟨rfl, hb⟩
 have HB1 := hD hb
 have HO : Hid ((w1.alloc (.cells #[.string ⟨(valE noop).toArray⟩] 9)).ownsRow w.heap.size 9 1 (.slice (some ⟨w1.heap.size, 0, none⟩) 1 1) 1 (strC [valE noop])) := hD (World.ownsRow_lit w1 #[.string ⟨(valE noop).toArray⟩] 1 hb.size (by decide) (by rfl))
 have HB2 : Hid (Below w.heap.size w (w1.alloc (.cells #[.string ⟨(valE noop).toArray⟩] 9))) := hD (bon hb (below_new _ _))
 obtain ⟨w2, hw2⟩ : ∃ w2, w2 = w1.alloc (.cells #[.string ⟨(valE noop).toArray⟩] 9) := ⟨_, rfl⟩
 have HW2 := hD hw2
 rw [← hw2] at HO HB2
 clear hb hw2
 have HO3 := hD (HO.out.alloc (.cells #[.int .i64 3, .int .i64 0, .slice none 0 0, .int .i64 2, .int .i64 1, .slice none 0 0, .int .i64 2, .int .i64 2, .slice none 0 0, .int .i64 2, .int .i64 3, .slice none 0 0] 95))
 have HE3 : Hid ((w2.alloc (.cells #[.int .i64 3, .int .i64 0, .slice none 0 0, .int .i64 2, .int .i64 1, .slice none 0 0, .int .i64 2, .int .i64 2, .slice none 0 0, .int .i64 2, .int .i64 3, .slice none 0 0] 95)).ownsRow w.heap.size 95 3 (.slice (some ⟨w2.heap.size, 0, none⟩) 4 4) 4 entC) := hD (World.ownsRow_lit w2 #[.int .i64 3, .int .i64 0, .slice none 0 0, .int .i64 2, .int .i64 1, .slice none 0 0, .int .i64 2, .int .i64 2, .slice none 0 0, .int .i64 2, .int .i64 3, .slice none 0 0] 4 HB2.out.size (by decide) (by rfl))
 have HB3 := hD (bon HB2.out (below_new w2 (.cells #[.int .i64 3, .int .i64 0, .slice none 0 0, .int .i64 2, .int .i64 1, .slice none 0 0, .int .i64 2, .int .i64 2, .slice none 0 0, .int .i64 2, .int .i64 3, .slice none 0 0] 95)))
 obtain ⟨w3, hw3⟩ : ∃ w3, w3 = w2.alloc (.cells #[.int .i64 3, .int .i64 0, .slice none 0 0, .int .i64 2, .int .i64 1, .slice none 0 0, .int .i64 2, .int .i64 2, .slice none 0 0, .int .i64 2, .int .i64 3, .slice none 0 0] 95) := ⟨_, rfl⟩
 have HW3 := hD hw3
 rw [← hw3] at HO3 HE3 HB3
 clear hw3
 go_upto_region 2 with fail
 rw [← HW2.out]
 go_upto_region 3 with fail
 rw [← HW3.out]
 obtain ⟨AE, hAE⟩ : ∃ AE, AE = some (⟨w2.heap.size, 0, none⟩ : Addr) := ⟨_, rfl⟩
 rw [← hAE] at HE3 ⊢
 clear hAE
 go_loopw [14, 1, 3, 4, 5] (fun i q _ _ _ wr => ∃ (k : Nat) (l : List (List UInt8)), i = .int .i64 k ∧ k ≤ 4 ∧ l.length = k + 1 ∧ (∀ x ∈ l, x.length ≤ 100) ∧ wr.ownsRow w.heap.size 9 1 q (k + 1) (strC l) ∧ wr.ownsRow w.heap.size 95 3 (.slice AE 4 4) 4 entC ∧ Below w.heap.size w wr) (fun i _ _ _ _ _ => 4 - (intOf i).toNat)
 case atStart => exact ⟨0, [valE noop], rfl, by omega, rfl, by simpa using HL0.out, HO3.out, HE3.out, HB3.out⟩
 case round =>
  obtain ⟨k, l, rfl, hk, hl, hx, how, hen, hbl⟩ := hrel
  obtain ⟨A, c, rfl⟩ := ownsRow_form how
  have HO := hD how
  have HN := hD hen
  have HB := hD hbl
  have HX := hD hx
  clear how hen hbl hx
  by_cases hlt : k < 4
  · have i0' : (0 : Int) ≤ (k : Int) := by omega
    have i1 : (k : Int) < 4 := by omega
    obtain ⟨b, o, rfl, hg, hcc⟩ := (Rd.own HN.out).cells (by decide)
    obtain ⟨e0, e1, e2⟩ := ent_at k hlt
    have a0 : wr.cell? ⟨b, o + k * 3, none⟩ = some (.int .i64 (kindK k)) := hcc (k * 3) _ e0
    have a1 : wr.cell? ⟨b, o + k * 3 + 1, none⟩ = some (.int .i64 (k : Int)) := hcc (k * 3 + 1) _ e1
    have a2 : wr.cell? ⟨b, o + k * 3 + 2, none⟩ = some (.slice none 0 0) := hcc (k * 3 + 2) _ e2
    obtain ⟨s, hs, hcall⟩ := enc_some k hlt
    have HC : Hid (∀ W, Below w.heap.size w W → Calls Tryz.prog 110 #[.agg #[.int .i64 (kindK k), .int .i64 (k : Int), .slice none 0 0]] W (RetStrErr s 0 W)) := hD (fun W hb => hcall W (HE.out.below hb))
    obtain ⟨kk, hkk⟩ : ∃ kk, kk = kindK k := ⟨_, rfl⟩
    rw [← hkk] at a0 HC
    clear hcc hcall e0 e1 e2 hkk
    go_wp2_with fail
    refine (HC.out _ (bon HB.out (below_new wr _))).mono ?_
    rintro e w5 ⟨rfl, hb5⟩
    have HB5 := hD (bon (bon HB.out (below_new wr _)) hb5)
    have HO5 := hD (ownsRow_below HO.out (bon (below_new wr _) hb5))
    have HN5 := hD (ownsRow_below HN.out (bon (below_new wr _) hb5))
    clear hb5
    go_wp2_with (at_builtin; refine wpList_apg elemS rfl _ _ rfl w.heap.size rfl (HO5.out.alloc _) rfl (rd_new w5 1 1 [.string ⟨s.toArray⟩] _ (by rfl)) (by simp [Value.oneCell']) (by omega) (by omega) (by have := HB5.out.size; simp; omega) ?_)
    intro A' c' w6 hown hgr
    have HO6 : Hid (w6.ownsRow w.heap.size 9 1 (.slice A' (k + 1 + 1) c') (k + 1 + 1) (strC (l ++ [s]))) := hD (by simpa [strC] using hown)
    have HN6 : Hid (w6.ownsRow w.heap.size 95 3 (.slice (some ⟨b, o, none⟩) 4 4) 4 entC) := hD (own_kept (HN5.out.alloc _) hgr (fun g hg => own_apart HN5.out HO5.out (by decide) g hg))
    have HB6 : Hid (Below w.heap.size w w6) := hD (below_grown (HB5.out.alloc HB5.out.size _) (by have := HB5.out.size; simp; omega) hgr (fun g hg => (HO5.out.lt g hg).1))
    clear hown hgr
    go_wp2_with fail
    go_roundw
    case rel => exact ⟨k + 1, l ++ [s], by go_num, by omega, by simp [hl], by intro x hx; rcases List.mem_append.1 hx with h | h; exact HX.out x h; simp at h; rw [h]; exact hs, HO6.out, HN6.out, HB6.out⟩
    case measure => simp [intOf]; omega
  · obtain rfl : k = 4 := by omega
    go_wp2_with fail
    go_ret
    exact ⟨A, c, l, rfl, hl, HX.out, Rd.own HO.out, HB.out⟩
open Go.RowKit Go.Shelf
def renGrowS : Go.Shelf.Ren := ⟨fun | 4 => 108 | n => n, fun | 22 => 30 | 25 => 9 | 3 => 3 | 4 => 4 | 20 => 20 | 0 => 0 | 9 => 9 | n => n, fun n => n⟩
theorem laysGrowS : Lays8.n4 Tryz.prog renGrowS := {
 mixed := by kernel_rfl
 f4 := ⟨ "slices.Grow[[]string,string]", by decide, Tryz.func108.trans (congrArg some (by kernel_rfl))⟩
 t0 := Tryz.underlying0
 a0 := Tryz.isAgg0
 z0 := Tryz.sizeOf0
 v0 := Tryz.zeroValue0
 t3 := Tryz.underlying3
 a3 := Tryz.isAgg3
 z3 := Tryz.sizeOf3
 v3 := Tryz.zeroValue3
 t4 := Tryz.underlying4
 a4 := Tryz.isAgg4
 z4 := Tryz.sizeOf4
 v4 := Tryz.zeroValue4
 t9 := Tryz.underlying9
 a9 := Tryz.isAgg9
 z9 := Tryz.sizeOf9
 v9 := Tryz.zeroValue9
 t20 := Tryz.underlying20
 a20 := Tryz.isAgg20
 z20 := Tryz.sizeOf20
 v20 := Tryz.zeroValue20
 t22 := Tryz.underlying30
 a22 := Tryz.isAgg30
 z22 := Tryz.sizeOf30
 v22 := Tryz.zeroValue30 }
def RetOwnS (l : List (List UInt8)) (w : World) (e : Ending) (w' : World) : Prop := ∃ A c, e = .returned (.slice A l.length c) ∧ w'.ownsRow w.heap.size 9 1 (.slice A l.length c) l.length (strC l) ∧ Below w.heap.size w w'
theorem grow_str (n : Nat) (w : World) (hn : n ≤ 33554432) : Calls Tryz.prog 108 #[.slice none 0 0, .int .i64 n] w (RetOwnS [] w) := by
 obtain ⟨i0, z0, hi, hz0, hz1, hz2, hz3⟩ := elemS.row
 have hz : z0 = .string ⟨#[]⟩ := by
  have h9 := infoS
  rw [hi] at h9
  simp only [Option.map_some, Option.some.injEq, Prod.mk.injEq] at h9
  rw [hz0] at h9
  simpa using h9.1
 subst hz
 by_cases h0 : n = 0
 · subst h0
   refine (Any8.slices_Grow_room laysGrowS none 0 0 0 w (by omega) (by omega) (by omega) (by omega)).mono ?_
   rintro e w' ⟨rfl, rfl⟩
   exact ⟨none, 0, rfl, World.ownsRow_nil _ _ _ _, Below.refl _ _⟩
 · refine (Any8.slices_Grow_grow laysGrowS i0 _ hi hz0 (by omega) none 0 0 n [] w (by omega) (by omega) (by rw [hz2]; omega) (by omega) (by simp) (fun _ => rfl) (fun a h => by cases h)).mono ?_
   rintro e w' ⟨rfl, rfl⟩
   refine ⟨_, _, rfl, ?_, ((Below.refl _ _).drew).alloc (by simp) _⟩
   have hge := grownCap_ge w (0 + n) 0 9
   have hle := grownCap_le_maxLen w (0 + n) 0 9 (by simp [maxLen]; omega)
   have := World.ownsRow_made (base := w.heap.size) (e := 9) (size := 1) w.drew (([] : List Value).toArray ++ Builtin.zeroCells (Value.cells (.string ⟨#[]⟩)) (0 + n - 0) ++ Builtin.zeroCells (Value.cells (.string ⟨#[]⟩)) (grownCap w (0 + n) 0 9 - (0 + n))) (grownCap w (0 + n) 0 9) (Nat.le_refl _) hle
    (by rw [Array.size_append, Array.size_append, size_zeroCells, size_zeroCells, show (Value.cells (.string ⟨#[]⟩)).size = 1 from rfl]; rw [show ([] : List Value).toArray.size = 0 from rfl]; omega)
   exact this
def twoS (a b : List (List UInt8)) (k : Nat) : List (List UInt8) := if k = 0 then [] else if k = 1 then a else a ++ b
theorem strC_one (l : List (List UInt8)) : ∀ u ∈ strC l, u.oneCell' = true := by
 intro u hu
 obtain ⟨x, _, rfl⟩ := List.mem_map.1 hu
 rfl
set_option maxRecDepth 100000 in
set_option maxHeartbeats 4000000 in
theorem concat_str (g : Nat) (A : Option Addr) (c : Nat) (l1 : List (List UInt8)) (B : Option Addr) (d : Nat) (l2 : List (List UInt8)) (w : World) (hg : g < w.heap.size) (p0 : w.cell? ⟨g, 0, none⟩ = some (.slice A l1.length c)) (p1 : w.cell? ⟨g, 1, none⟩ = some (.slice B l2.length d))
    (h1 : Rd w 1 A l1.length (strC l1)) (h2 : Rd w 1 B l2.length (strC l2)) (n : l1.length + l2.length ≤ 16777216) :
    Calls Tryz.prog 75 #[.slice (some ⟨g, 0, none⟩) 2 2] w (RetOwnS (l1 ++ l2) w) := by
 have H1 := hD h1
 have H2 := hD h2
 have HP : Hid (∀ W, Below w.heap.size w W → W.cell? ⟨g, 0, none⟩ = some (.slice A l1.length c) ∧ W.cell? ⟨g, 1, none⟩ = some (.slice B l2.length d)) := hD (fun W hb => ⟨(hb.cell (p := ⟨g, 0, none⟩) hg).trans p0, (hb.cell (p := ⟨g, 1, none⟩) hg).trans p1⟩)
 clear h1 h2
 go_enter Tryz.func75, Tryz.ntmps75
 go_wp2_with fail
 go_loop [3, 11] (fun s i => ∃ k : Nat, i = .int .i64 k ∧ k ≤ 2 ∧ s = .int .i64 (twoS l1 l2 k).length) (fun _ i => 2 - (intOf i).toNat)
 case atStart => exact ⟨0, rfl, by omega, rfl⟩
 case round =>
  obtain ⟨k, rfl, hk, rfl⟩ := hrel
  have hk3 : k = 0 ∨ k = 1 ∨ k = 2 := by omega
  rcases hk3 with rfl | rfl | rfl
  · simp only [twoS, if_true, List.length_nil]
    go_wp2_with fail
    go_round
    case rel => exact ⟨1, by go_num, by omega, by simp []⟩
    case measure => simp [intOf]
  · have ht : (twoS l1 l2 1).length = l1.length := rfl
    rw [ht]
    go_wp2_with fail
    go_round
    case rel => exact ⟨2, by go_num, by omega, by simp [twoS]⟩
    case measure => simp [intOf]
  · have ht : (twoS l1 l2 2).length = l1.length + l2.length := by simp [twoS]
    rw [ht]
    clear p0 p1
    go_wp2_with fail
    refine (grow_str (l1.length + l2.length) w (by omega)).mono ?_
    rintro e w1 ⟨A0, c0, rfl, ho, hb⟩
    have HO := hD ho
    have HB := hD hb
    clear ho hb
    go_wp2_with fail
    go_loopw [6, 27] (fun o i wr => ∃ (k : Nat) (A2 : Option Addr) (c2 : Nat), i = .int .i64 k ∧ k ≤ 2 ∧ o = .slice A2 (twoS l1 l2 k).length c2 ∧ wr.ownsRow w.heap.size 9 1 (.slice A2 (twoS l1 l2 k).length c2) (twoS l1 l2 k).length (strC (twoS l1 l2 k)) ∧ Below w.heap.size w wr) (fun _ i _ => 2 - (intOf i).toNat)
    case atStart => exact ⟨0, A0, c0, rfl, by omega, rfl, HO.out, HB.out⟩
    case round =>
     obtain ⟨k, A2, c2, rfl, hk, rfl, ho, hb⟩ := hrel
     have HO2 := hD ho
     have HB2 := hD hb
     obtain ⟨p0, p1⟩ := HP.out wr hb
     have hsz := hb.size
     clear ho hb
     have hk3 : k = 0 ∨ k = 1 ∨ k = 2 := by omega
     rcases hk3 with rfl | rfl | rfl
     · go_wp2_with (at_builtin; refine wpList_apr elemS rfl _ _ rfl w.heap.size rfl HO2.out rfl (H1.out.below HB2.out) (strC_one _) (by show (0 + _) * _ ≤ _; omega) (by show 0 + _ ≤ _; omega) hsz ?_)
       intro A4 c4 w4 ho4 hb4
       have HO4 := hD ho4
       have HB4 := hD hb4
       clear ho4 hb4
       go_wp2_with fail
       go_roundw
       case rel => exact ⟨1, A4, c4, by go_num, by omega, by simp [twoS], by have h9 := HO4.out; simpa [twoS, strC] using h9, HB2.out.trans HB4.out⟩
       case measure => simp [intOf]
     · go_wp2_with (at_builtin; refine wpList_apr elemS rfl _ _ rfl w.heap.size rfl HO2.out rfl (H2.out.below HB2.out) (strC_one _) (by show (l1.length + _) * _ ≤ _; omega) (by show l1.length + _ ≤ _; omega) hsz ?_)
       intro A4 c4 w4 ho4 hb4
       have HO4 := hD ho4
       have HB4 := hD hb4
       clear ho4 hb4
       go_wp2_with fail
       go_roundw
       case rel => exact ⟨2, A4, c4, by go_num, by omega, by simp [twoS], by have h9 := HO4.out; simpa [twoS, strC] using h9, HB2.out.trans HB4.out⟩
       case measure => simp [intOf]
     · clear p0 p1
       go_wp2_with fail
       go_ret
       exact ⟨A2, c2, rfl, HO2.out, HB2.out⟩
def RetS5 (w : World) (e : Ending) (w' : World) : Prop := ∃ A c, ∃ l : List (List UInt8), e = .returned (.slice A 5 c) ∧ l.length = 5 ∧ (∀ x ∈ l, x.length ≤ 100) ∧ Rd w' 1 A 5 (strC l) ∧ Below w.heap.size w w'
theorem concat5 (g : Nat) (A : Option Addr) (c : Nat) (l : List (List UInt8)) (w : World) (h5 : l.length = 5) (hx : ∀ x ∈ l, x.length ≤ 100) (hg : g < w.heap.size) (p0 : w.cell? ⟨g, 0, none⟩ = some (.slice A 5 c)) (p1 : w.cell? ⟨g, 1, none⟩ = some (.slice none 0 0)) (h1 : Rd w 1 A 5 (strC l)) :
    Calls Tryz.prog 75 #[.slice (some ⟨g, 0, none⟩) 2 2] w (RetS5 w) := by
 refine (concat_str g A c l none 0 [] w hg (by rw [h5]; exact p0) p1 (by rw [h5]; exact h1) (Rd.nil _ _ _) (by rw [h5]; decide)).mono ?_
 rintro e w' ⟨A', c', rfl, ho, hb⟩
 rw [List.append_nil, h5] at ho
 exact ⟨A', c', l, by rw [List.append_nil, h5], h5, hx, Rd.own ho, hb⟩
open Go.RowKit Q40
def RetVal (w : World) (e : Ending) (w' : World) : Prop := (∃ s : List UInt8, s.length ≤ 100 ∧ e = .returned (.tuple #[.string ⟨s.toArray⟩, .int .i64 0])) ∧ Below w.heap.size w w'
set_option maxRecDepth 100000 in
set_option maxHeartbeats 2000000 in
theorem value_ex (w : World) (he : EnvP w) : Calls Tryz.prog 50 #[.agg #[.slice none 0 0, .slice none 0 0], .int .i64 1] w (RetVal w) := by
 have HE := hD he
 have H0 := hD (bx_new w [.slice none 0 0, .slice none 0 0] 59)
 clear he
 go_enter Tryz.func50, Tryz.ntmps50
 go_upto_region 1 with fail
 have HX : Hid (Bx w [.slice none 0 0, .slice none 0 0] 59 (w.alloc (.cells #[.slice none 0 0, .slice none 0 0] 59)).drew) := hD (bx_drew H0.out)
 generalize hv : (w.alloc (.cells #[.slice none 0 0, .slice none 0 0] 59)).drew = v0 at HX
 have hS0 : World.cell? v0 ⟨w.heap.size, 1, none⟩ = some (.slice none 0 0) := bx_cell HX.out 1 _ rfl
 refine wp_region_held_drew (S := fun W => World.cell? W ⟨w.heap.size, 1, none⟩ = some (.slice none 0 0)) (by kernel_rfl) (by rw [hv]; exact hS0) (fun hHeld => ?_)
 rw [hv] at hHeld ⊢
 clear hv
 refine takes [1,2] ?_
 refine tkr 0 rfl (fun K hK => ?_)
 go_simp
 go_at_call 76
 refine (fixed_any _ (HE.out.below (bx_low HX.out))).mono ?_
 rintro e v1 ⟨A5, c5, l5, rfl, hl5, hx5, hr5, hs⟩
 have HX := hD (bx_on HX.out hs)
 clear hs
 go_wp2_with fail
 have hS1 : World.cell? v1 ⟨w.heap.size, 1, none⟩ = some (.slice none 0 0) := bx_cell HX.out 1 _ rfl
 refine hK.out _ _ hS1 (fun hHeld => ?_)
 clear hK K
 try simp only [Act.put,qk1,qk2,qk3,qk4,qk5,qk6]
 refine tkr 3 rfl (fun K hK => ?_)
 go_simp
 obtain ⟨v2, hv2⟩ : ∃ v2, v2 = v1.alloc (.cells #[.slice A5 5 c5, .slice none 0 0] 30) := ⟨_, rfl⟩
 have HC : Hid (Calls Tryz.prog 75 #[.slice (some ⟨v1.heap.size, 0, none⟩) 2 2] v2 (RetS5 v2)) := hD (by
  rw [hv2]
  exact concat5 v1.heap.size A5 c5 l5 _ hl5 hx5 (by simp) (by simp) (by simp) (hr5.below (below_new _ _)))
 have HX := hD (bx_alloc HX.out (.cells #[.slice A5 5 c5, .slice none 0 0] 30))
 rw [← hv2] at HX ⊢
 clear hv2 hl5 hx5 hr5
 have hS2 : World.cell? v2 ⟨w.heap.size, 1, none⟩ = some (.slice none 0 0) := bx_cell HX.out 1 _ rfl
 refine hK.out _ _ hS2 (fun hHeld => ?_)
 clear hK K
 try simp only [Act.put,qk1,qk2,qk3,qk4,qk5,qk6]
 refine tkr 4 rfl (fun K hK => ?_)
 go_simp
 go_at_call 75
 refine HC.out.mono ?_
 rintro e v3 ⟨A6, c6, l6, rfl, hl6, hx6, hr6, hs⟩
 have HX := hD (bx_on HX.out hs)
 have HR6 := hD hr6
 have HL6 := hD hl6
 have HX6 := hD hx6
 clear hs hr6 hl6 hx6
 go_wp2_with fail
 have hS3 : World.cell? v3 ⟨w.heap.size, 1, none⟩ = some (.slice none 0 0) := bx_cell HX.out 1 _ rfl
 refine hK.out _ _ hS3 (fun hHeld => ?_)
 clear hK K
 try simp only [Act.put,qk1,qk2,qk3,qk4,qk5,qk6]
 refine takes [5] ?_
 refine wpAnyH_done (by kernel_rfl) ?_ _
 obtain ⟨s, hs, hb6⟩ : ∃ s : List UInt8, s.length ≤ 100 ∧ ∃ b o, A6 = some ⟨b, o, none⟩ ∧ v3.cell? ⟨b, o + 1, none⟩ = some (.string ⟨s.toArray⟩) := by
  have hl6 := HL6.out
  have h1 : 1 < l6.length := by omega
  obtain ⟨b, o, e1, _, hc⟩ := HR6.out.cells (by rw [strC_len]; omega)
  exact ⟨l6[1], HX6.out _ (List.getElem_mem h1), b, o, e1, hc 1 _ (by simp [strC, h1])⟩
 obtain ⟨b, o, rfl, hc⟩ := hb6
 have HS := hD hs
 clear hs
 go_wp2_with fail
 go_ret2
 exact ⟨⟨s, HS.out, rfl⟩, bx_low HX.out⟩
set_option maxRecDepth 100000 in
set_option maxHeartbeats 2000000 in
theorem picked_ex (kd sv tt vw sl vl pk : Int) (w : World) : Calls Tryz.prog 49 #[.agg #[.slice none 0 0, .slice none 0 0], .agg #[.int .i64 kd, .int .i64 sv, .int .i64 tt, .int .i64 vw, .int .i64 sl, .int .i64 vl, .int .i64 pk]] w (fun e w' => e = .returned (.slice none 0 0) ∧ Below w.heap.size w w') := by
 have HB : Hid (Below w.heap.size w ((w.alloc (.cells #[.slice none 0 0, .slice none 0 0] 59)).alloc (.cells #[.int .i64 kd, .int .i64 sv, .int .i64 tt, .int .i64 vw, .int .i64 sl, .int .i64 vl, .int .i64 pk] 28))) := hD (bon (below_new w _) (below_new _ _))
 go_enter Tryz.func49, Tryz.ntmps49
 go_wp2_with fail
 go_loop [5, 12] (fun o i => o = .slice none 0 0 ∧ i = .int .i64 0) (fun _ _ => 0)
 case atStart => exact ⟨rfl, rfl⟩
 case round =>
  obtain ⟨rfl, rfl⟩ := hrel
  go_wp2_with fail
  go_ret
  exact ⟨rfl, HB.out⟩
end Go.Proofs.YtikpcebhcnjkhaaGreatDoor
