/- The examples that every statement checks first. -/
import Derived.Test.YtdjpnncehlmehaaDoorL
namespace Go.Proofs.YtdjpnncehlmehaaDoor
open Go.RowKit

def toksF : Nat → List UInt8 → Int → List Tok → Except Int (List Tok)
  | 0, _, line, _ => .error line
  | f + 1, l, line, acc =>
    match l with
    | [] => .ok acc
    | c :: r =>
      if isSp c.toNat then toksF f r (if c == 10 then line + 1 else line) acc
      else if c == 47 && r.head? == some 47 then toksF f (r.dropWhile notNl) line acc
      else
        match tok1 (c :: r) with
        | none => .error line
        | some (t, n) => toksF f (r.drop (n - 1)) line (acc ++ [{ t with line := line }])
theorem toks_F : ∀ (f : Nat) (l : List UInt8) (line : Int) (acc : List Tok), l.length < f → toks l line acc = toksF f l line acc := by
  intro f
  induction f with
  | zero => intro l _ _ h; omega
  | succ f ih =>
    intro l line acc h
    match l with
    | [] => rw [toks]; rfl
    | c :: r =>
      simp only [List.length_cons] at h
      rw [toks, toksF]
      split
      · exact ih _ _ _ (by omega)
      · split
        · exact ih _ _ _ (by have := (List.dropWhile_sublist notNl (l := r)).length_le; omega)
        · cases tok1 (c :: r) with
          | none => rfl
          | some x => exact ih _ _ _ (by simp; omega)
def toksRF (l : List UInt8) : List Tok × Int × Int :=
  if 65536 < l.length then ([], 0, 3) else match toksF (l.length + 1) l 1 [] with | .ok ts => (ts, 0, 0) | .error n => ([], n, 2)
theorem toksR_F (l : List UInt8) : toksR l = toksRF l := by
  unfold toksR toksRF
  rw [toks_F (l.length + 1) l 1 [] (by omega)]
  rfl
theorem ex1 : toksR [97, 49, 61, 50, 40, 98, 41, 32, 47, 47, 32, 99] = ([⟨1, [97, 49], 0, [], 1⟩, ⟨4, [61], 0, [], 1⟩, ⟨2, [], 2, [], 1⟩, ⟨4, [40], 0, [], 1⟩, ⟨1, [98], 0, [], 1⟩, ⟨4, [41], 0, [], 1⟩], 0, 0) := by
  rw [toksR_F]; decide +kernel
theorem ex2 : toksR [120, 10, 48, 48, 55] = ([], 2, 2) := by
  rw [toksR_F]; decide +kernel
theorem ex3 : toksR [55, 97] = ([⟨2, [], 7, [], 1⟩, ⟨1, [97], 0, [], 1⟩], 0, 0) := by
  rw [toksR_F]; decide +kernel
theorem ex4 : unq [34, 92, 34, 92, 120, 48, 48, 34] = ([34, 0], 0) := by
  simp [unq, litR, litFrom, chrR, escR, hexv]
theorem ex5 : quote [34, 0] = [34, 92, 34, 92, 120, 48, 48, 34] := by decide +kernel
theorem ex6 : lines [97, 10, 10, 98] = [[97], [], [98]] := by decide +kernel

set_option maxRecDepth 100000 in
set_option maxHeartbeats 2000000 in
theorem awake_any (w : World) (hsh : w.ShapedOpen Tryd.prog) :
    Calls Tryd.prog 10 #[] w fun e w' => e = .returned (.bool true) ∧ Below w.heap.size w w' := by
  have C1 : Hid (∀ w, Calls Tryd.prog 11 #[.string ⟨#[97, 49, 61, 50, 40, 98, 41, 32, 47, 47, 32, 99]⟩] w (RetToks [97, 49, 61, 50, 40, 98, 41, 32, 47, 47, 32, 99] w)) := Lib.hid (fun w => lexTokens_any _ w (by decide))
  have C2 : Hid (∀ w, Calls Tryd.prog 11 #[.string ⟨#[120, 10, 48, 48, 55]⟩] w (RetToks [120, 10, 48, 48, 55] w)) := Lib.hid (fun w => lexTokens_any _ w (by decide))
  have C3 : Hid (∀ w, Calls Tryd.prog 11 #[.string ⟨#[55, 97]⟩] w (RetToks [55, 97] w)) := Lib.hid (fun w => lexTokens_any _ w (by decide))
  have C4 : Hid (∀ w, Calls Tryd.prog 15 #[.string ⟨#[34, 92, 34, 92, 120, 48, 48, 34]⟩] w fun e w' => e = .returned (.tuple #[.string ⟨#[34, 0]⟩, .int .i64 0]) ∧ Below w.heap.size w w') := Lib.hid (fun w => by
    have h := lexUnquote_any ⟨#[34, 92, 34, 92, 120, 48, 48, 34]⟩ w (by decide)
    rw [show (ByteArray.mk #[34, 92, 34, 92, 120, 48, 48, 34]).data.toList = [34, 92, 34, 92, 120, 48, 48, 34] from rfl, ex4] at h
    exact h)
  have C5 : Hid (∀ w, Calls Tryd.prog 14 #[.string ⟨#[34, 0]⟩] w fun e w' => e = .returned (.string ⟨#[34, 92, 34, 92, 120, 48, 48, 34]⟩) ∧ Below w.heap.size w w') := Lib.hid (fun w => by
    have h := lexQuote_any ⟨#[34, 0]⟩ w (by decide)
    rw [show (ByteArray.mk #[34, 0]).data.toList = [34, 0] from rfl, ex5] at h
    exact h)
  have C6 : Hid (∀ w, w.ShapedOpen Tryd.prog → Calls Tryd.prog 18 #[.string ⟨#[97, 10, 10, 98]⟩] w (RetStrs [[97], [], [98]] w)) := Lib.hid (fun w hs => by
    have h := lexLines_any ⟨#[97, 10, 10, 98]⟩ w (by decide) hs
    rw [show (ByteArray.mk #[97, 10, 10, 98]).data.toList = [97, 10, 10, 98] from rfl, ex6] at h
    exact h)
  have HSH := Lib.hid hsh
  clear hsh
  go_enter Tryd.func10, Tryd.ntmps10
  go_wp2_with fail
  refine (C1.out _).mono ?_
  rintro e w1 ⟨A1, c1, rfl, r1, b1⟩
  rw [ex1] at r1 ⊢
  have R1 := Lib.hid r1
  have B1 := Lib.hid b1
  clear r1 b1
  go_wp2_with fail
  refine (C2.out _).mono ?_
  rintro e w2 ⟨A2, c2, rfl, r2, b2⟩
  rw [ex2]
  have B2 := Lib.hid b2
  clear r2 b2
  go_wp2_with fail
  refine (C3.out _).mono ?_
  rintro e w3 ⟨A3, c3, rfl, r3, b3⟩
  rw [ex3]
  have B3 := Lib.hid b3
  clear r3 b3
  go_wp2_with fail
  refine (C4.out _).mono ?_
  rintro e w4 ⟨rfl, b4⟩
  have B4 := Lib.hid b4
  clear b4
  have BB := Lib.hid (B2.out.trans ((B3.out.mono B2.out.size).trans (B4.out.mono (Nat.le_trans B2.out.size B3.out.size))))
  obtain ⟨g, o, rfl, hg, hc⟩ := (R1.out.below BB.out).cells (by decide)
  obtain ⟨a0, a1, a2, a3, a4⟩ := toks_cells hc (k := 0) (by decide)
  obtain ⟨b0, b1, b2, b3, b4⟩ := toks_cells hc (k := 2) (by decide)
  have BW := Lib.hid (B1.out.trans (BB.out.mono B1.out.size))
  clear hc
  simp only [List.getElem_cons_zero, List.getElem_cons_succ, Nat.zero_mul, Nat.add_zero] at a0 a1 a2 a3 a4 b0 b1 b2 b3 b4
  go_wp2_with fail
  refine (C5.out _).mono ?_
  rintro e w5 ⟨rfl, b5⟩
  have B5 := Lib.hid b5
  have BW5 := Lib.hid (BW.out.trans (b5.mono BW.out.size))
  clear b5 a0 a1 a2 a3 a4 b0 b1 b2 b3 b4
  go_wp2_with fail
  refine (C6.out _ (shaped_below HSH.out BW5.out)).mono ?_
  rintro e w6 ⟨A6, c6, rfl, r6, b6⟩
  have R6 := Lib.hid r6
  have BW6 := Lib.hid (BW5.out.trans (b6.mono BW5.out.size))
  clear r6 b6
  go_wp2_with fail
  have ra : Rd (w6.alloc (.cells #[.string ⟨#[97]⟩, .string ⟨#[]⟩, .string ⟨#[98]⟩] 9)) 1 A6 3 (strC [[97], [], [98]]) := R6.out.below ((Below.refl _ _).alloc (Nat.le_refl _) _)
  have rb : Rd (w6.alloc (.cells #[.string ⟨#[97]⟩, .string ⟨#[]⟩, .string ⟨#[98]⟩] 9)) 1 (some ⟨w6.heap.size, 0, none⟩) 3 (strC [[97], [], [98]]) := rd_alloc w6 [[97], [], [98]] 3 (by decide)
  refine (strings_any A6 (some ⟨w6.heap.size, 0, none⟩) c6 3 [[97], [], [98]] [[97], [], [98]] _ ra rb (by decide) (by decide)).mono ?_
  rintro e w7 ⟨rfl, n, rfl⟩
  rw [show decide (([[97], [], [98]] : List (List UInt8)) = [[97], [], [98]]) = true from decide_eq_true rfl]
  go_wp2_with fail
  go_ret
  exact ⟨rfl, below_drewN (BW6.out.alloc BW6.out.size _) _⟩
end Go.Proofs.YtdjpnncehlmehaaDoor
