/- The contract of the reference's strings. -/
import Derived.Test.YthmoplkleopahaaDoorRefH
namespace Go.Proofs.YthmoplkleopahaaDoor
open Go.RowKit

def RetRS (o : Option (List (List UInt8))) (w : World) (e : Ending) (w' : World) : Prop := Below w.heap.size w w' ∧ match o with
  | some xs => ∃ A c, e = .returned (.tuple #[.slice A xs.length c, .bool true]) ∧ Rd w' 1 A xs.length (strC xs) ∧ xs.length ≤ c ∧ c ≤ 9223372036854775807
  | none => ∃ A n c, e = .returned (.tuple #[.slice A n c, .bool false])
theorem ret_rs_none {o : Option (List (List UInt8))} {w w' : World} (h : o = none) (A : Option Addr) (n c : Nat) (hb : Below w.heap.size w w') : RetRS o w (.returned (.tuple #[.slice A n c, .bool false])) w' := by
  subst h; exact ⟨hb, A, n, c, rfl⟩
theorem ret_rs_some {o : Option (List (List UInt8))} {w w' : World} {xs : List (List UInt8)} {n : Nat} {A : Option Addr} {c : Nat} (h : o = some xs) (hn : n = xs.length) (hr : Rd w' 1 A n (strC xs)) (hc : n ≤ c) (hm : c ≤ 9223372036854775807) (hb : Below w.heap.size w w') : RetRS o w (.returned (.tuple #[.slice A n c, .bool true])) w' := by
  subst h hn; exact ⟨hb, A, c, rfl, hr, hc, hm⟩
theorem take_is (s : ByteArray) (most : Nat) (hm : most < 16384) (w : World) (hs : s.size ≤ 70368744177664) (a b : Nat) (h : takeR s.data.toList most = (a, b)) :
    Calls Tryd.prog 52 #[.string s, .int .i64 most] w fun e w' => w = w' ∧ e = .returned (.tuple #[.int .i64 a, .int .i64 b]) :=
  (take_any s most hm w hs).mono fun _ _ ⟨x, y⟩ => by rw [h] at y; exact ⟨x, y⟩
set_option maxRecDepth 100000 in
set_option maxHeartbeats 4000000 in
theorem refStrs_any (s : ByteArray) (w : World) (hs : s.size ≤ 1099511627776) :
    Calls Tryd.prog 37 #[.string s] w (RetRS (refStrs s.data.toList) w) := by
  obtain ⟨n, k, ht⟩ : ∃ n k, takeR s.data.toList 25 = (n, k) := ⟨_, _, rfl⟩
  have HG := Lib.hid (take_is s 25 (by omega) w (by omega) n k ht)
  have hle := takeR_le s.data.toList 25
  rw [ht, len_data] at hle
  obtain ⟨k2, n2⟩ := hle
  simp only [] at k2 n2
  by_cases hk0 : k = 0
  · have HR : Hid (refStrs s.data.toList = none) := Lib.hid (by unfold refStrs; rw [ht, if_pos hk0])
    subst hk0
    clear ht
    go_enter Tryd.func37, Tryd.ntmps37
    go_wp2_with fail
    refine HG.out.mono ?_
    rintro e w' ⟨rfl, rfl⟩
    go_wp2_with fail
    go_ret2
    exact ret_rs_none HR.out _ _ _ (Below.refl _ _)
  · have HL : Hid (refStrs s.data.toList = match refGo n (s.data.toList.drop k) with
      | none => none
      | some (xs, m) => if k + m = s.size then some xs else none) := Lib.hid (by unfold refStrs; rw [ht, if_neg hk0, len_data]; rfl)
    have hk1 : ((k : Int) == 0) = false := by rw [beq_eq_false_iff_ne]; omega
    obtain ⟨i0, hi, hz0, hz1, hz2⟩ := info_parts infoS
    have HI := Lib.hid hi
    have HZ0 := Lib.hid hz0
    have HZ1 := Lib.hid hz1
    have HZ2 := Lib.hid hz2
    clear hi hz0 hz1 hz2 ht
    go_enter Tryd.func37, Tryd.ntmps37
    go_wp2_with fail
    refine HG.out.mono ?_
    rintro e w' ⟨rfl, rfl⟩
    go_wp2_with fail
    go_loopw [5, 6, 7] (fun a o i wr => ∃ (j p : Nat) (xs : List (List UInt8)), i = .int .i64 j ∧ j ≤ n ∧ a = .int .i64 p ∧ p ≤ s.size ∧ xs.length = j ∧ wr.ownsRow w.heap.size 9 1 o j (strC xs) ∧ Below w.heap.size w wr ∧ w.heap.size ≤ wr.heap.size ∧
      refStrs s.data.toList = (match refGo (n - j) (s.data.toList.drop p) with
      | none => none
      | some (ys, m) => if p + m = s.size then some (xs ++ ys) else none)) (fun _ _ i _ => n - (intOf i).toNat)
    case atStart => exact ⟨0, k, [], rfl, by omega, rfl, k2, rfl, World.ownsRow_nil _ _ _ _, Below.refl _ _, Nat.le_refl _, by rw [HL.out]; simp⟩
    case round =>
      obtain ⟨j, p, xs, rfl, hj, rfl, hp, hxs, hown, hb, hge, hL⟩ := hrel
      have HO := Lib.hid hown
      have HB := Lib.hid hb
      have HX := Lib.hid hxs
      have HE := Lib.hid hL
      clear hown hb hxs hL
      by_cases hlt : j < n
      · have hj' : (j : Int) < (n : Int) := by omega
        have hsl : (s.extract p s.size).size = s.size - p := by simp
        have HD := Lib.hid (ext_end s p hp)
        have hmany : n - j = (n - (j + 1)) + 1 := by omega
        obtain ⟨a, z, ht⟩ : ∃ a z, takeR (s.data.toList.drop p) 200 = (a, z) := ⟨_, _, rfl⟩
        have HG1 := Lib.hid (take_is (s.extract p s.size) 200 (by omega) wr (by omega) a z (by rw [HD.out]; exact ht))
        have hle := takeR_le (s.data.toList.drop p) 200
        rw [ht, List.length_drop, len_data] at hle
        obtain ⟨z2, a2⟩ := hle
        simp only [] at z2 a2
        by_cases hz0 : z = 0
        · have HR : Hid (refStrs s.data.toList = none) := Lib.hid (by rw [HE.out, hmany, refGo, ht, if_pos (.inl hz0)])
          subst hz0
          clear hsl hmany ht
          obtain ⟨A, c, hv⟩ := ownsRow_form HO.out
          subst hv
          go_wp2_with fail
          refine HG1.out.mono ?_
          rintro e w' ⟨rfl, rfl⟩
          go_wp2_with fail
          go_ret2
          exact ret_rs_none HR.out _ _ _ HB.out
        · have hz1 : ((z : Int) == 0) = false := by rw [beq_eq_false_iff_ne]; omega
          by_cases hbig : s.size < p + z + a
          · have HR : Hid (refStrs s.data.toList = none) := Lib.hid (by rw [HE.out, hmany, refGo, ht, if_pos (.inr (by rw [List.length_drop, len_data]; simp only []; omega))])
            have hb1 : (s.size : Int) < (p : Int) + (z : Int) + (a : Int) := by omega
            clear hsl hmany ht
            obtain ⟨A, c, hv⟩ := ownsRow_form HO.out
            subst hv
            go_wp2_with fail
            refine HG1.out.mono ?_
            rintro e w' ⟨rfl, rfl⟩
            go_wp2_with fail
            go_ret2
            exact ret_rs_none HR.out _ _ _ HB.out
          · have HR : Hid (refStrs s.data.toList = (match refGo (n - (j + 1)) (s.data.toList.drop (p + z + a)) with
              | none => none
              | some (ys, m) => if p + z + a + m = s.size then some (xs ++ [((s.data.toList.drop p).drop z).take a] ++ ys) else none)) := Lib.hid (by
                rw [HE.out, hmany, refGo, ht]
                simp only []
                rw [if_neg (by rw [List.length_drop, len_data]; omega), List.drop_drop, Nat.add_assoc p z a]
                cases refGo (n - (j + 1)) (s.data.toList.drop (p + (z + a))) with
                | none => rfl
                | some y => obtain ⟨ys, m⟩ := y; simp [Nat.add_assoc])
            have HX2 : Hid (s.extract (p + z) (p + z + a) = ⟨(((s.data.toList.drop p).drop z).take a).toArray⟩) := Lib.hid (by rw [ext_mid, List.drop_drop, show p + z + a - (p + z) = a from by omega])
            have hb1 : ¬ (s.size : Int) < (p : Int) + (z : Int) + (a : Int) := by omega
            clear hsl hmany ht
            generalize ((s.data.toList.drop p).drop z).take a = x at HR HX2
            go_wp2_with fail
            refine HG1.out.mono ?_
            rintro e w' ⟨rfl, rfl⟩
            go_wp2_with (at_builtin; rw [HX2.out]; refine wpList_append_own _ rfl _ _ 45 rfl w.heap.size 9 i0 _ 1 16 Tryd.underlying45 HI.out HZ0.out HZ1.out HZ2.out rfl (by decide) _ _ _ rfl (HO.out.alloc _) ⟨wr.heap.size, 0, none⟩ 1 1 [.string ⟨x.toArray⟩] rfl rfl (cell_new _ _ _ _ rfl) (by simp [Value.oneCell']) (by simp [maxLen]; omega) (by omega) (by simp; omega) ?_)
            intro v' w2 hown' hgrow _
            have HO2 := Lib.hid hown'
            have HG2 := Lib.hid hgrow
            clear hown' hgrow
            go_wp2_with fail
            go_roundw
            case rel =>
              refine ⟨j + 1, p + z + a, xs ++ [x], by go_num, by omega, by go_num, by omega, by simp [HX.out], ?_, below_grown (HB.out.alloc hge _) (by simp; omega) HG2.out (fun g hg => (HO.out.lt g hg).1), ?_, HR.out⟩
              · rw [strC_snoc]; exact HO2.out
              · have := HG2.out.size; simp at this; omega
            case measure => simp [intOf]; omega
      · have hjn : j = n := by omega
        obtain ⟨A, c, hv⟩ := ownsRow_form HO.out
        subst hv
        have hj' : ¬ (j : Int) < (n : Int) := by omega
        by_cases hps : p = s.size
        · have HR : Hid (refStrs s.data.toList = some xs) := Lib.hid (by rw [HE.out, hjn, Nat.sub_self, refGo]; simp [hps])
          have hps1 : ((p : Int) == (s.size : Int)) = true := by rw [beq_iff_eq]; omega
          clear hjn
          go_wp2_with fail
          go_ret2
          exact ret_rs_some HR.out HX.out.symm (Rd.own HO.out) (own_cap HO.out) (own_max HO.out) HB.out
        · have HR : Hid (refStrs s.data.toList = none) := Lib.hid (by rw [HE.out, hjn, Nat.sub_self, refGo]; simp [hps])
          have hps1 : ((p : Int) == (s.size : Int)) = false := by rw [beq_eq_false_iff_ne]; omega
          clear hjn
          go_wp2_with fail
          go_ret2
          exact ret_rs_none HR.out _ _ _ HB.out
end Go.Proofs.YthmoplkleopahaaDoor
