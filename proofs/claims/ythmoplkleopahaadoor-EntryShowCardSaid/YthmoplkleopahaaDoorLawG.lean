/- The law on Show. -/
import Derived.Test.YthmoplkleopahaaDoorLawC
import Derived.Test.YthmoplkleopahaaDoorRefM
namespace Go.Proofs.YthmoplkleopahaaDoor
open Go.RowKit

set_option maxRecDepth 100000 in
set_option maxHeartbeats 2000000 in
theorem lawShow (s : List UInt8) (w : World) (he : Env w) (hl : s.length ≤ 9223372036854775807) :
    Calls Tryd.prog 6 #[.string ⟨s.toArray⟩] w (RetBool true w) := by
  have HA : Hid (∀ W, Below w.heap.size w W → Calls Tryd.prog 11 #[] W fun e w' => e = .returned (.bool true) ∧ Below w.heap.size w w') := Lib.hid (fun W hW => (awake_any W (he.below hW)).mono fun _ _ ⟨a, b⟩ => ⟨a, bon hW b⟩)
  have HB0 : Hid (Below w.heap.size w w) := Lib.hid (Below.refl _ _)
  have HE : Hid (∀ W, Below w.heap.size w W → Env W) := Lib.hid (fun W hW => he.below hW)
  have hsz : (⟨s.toArray⟩ : ByteArray).size = s.length := size_mk s
  by_cases hbig : 2100 < s.length
  · have hb1 : (2100 : Int) < (s.length : Int) := by omega
    clear he
    go_enter Tryd.func6, Tryd.ntmps6
    go_wp2_with fail
    refine (HA.out _ HB0.out).mono ?_
    rintro e w1 ⟨rfl, b1⟩
    go_wp2_with fail
    refine (HA.out _ b1).mono ?_
    rintro e w2 ⟨rfl, b2⟩
    go_wp2_with fail
    go_ret
    exact ret_bl rfl b2
  · have hb1 : ¬ (2100 : Int) < (s.length : Int) := by omega
    have hs : s.length ≤ 2100 := by omega
    have HS : Hid (∀ W, Below w.heap.size w W → Calls Tryd.prog 20 #[.string ⟨s.toArray⟩] W (RetStr (showE (decE s)) W)) := Lib.hid (fun W hW => show_any s W (HE.out W hW) hs)
    have HR : Hid (∀ W, Calls Tryd.prog 21 #[.string ⟨s.toArray⟩] W (RetStr (showE (decE s)) W)) := Lib.hid (fun W => refShow_any s W hs)
    generalize showE (decE s) = t at HS HR
    clear he
    go_enter Tryd.func6, Tryd.ntmps6
    go_wp2_with fail
    refine (HA.out _ HB0.out).mono ?_
    rintro e w1 ⟨rfl, b1⟩
    have HB1 := Lib.hid b1
    clear b1
    go_wp2_with fail
    refine (HS.out _ HB1.out).mono ?_
    rintro e w2 ⟨rfl, b2⟩
    have HB2 := Lib.hid (bon HB1.out b2)
    clear b2
    go_wp2_with fail
    refine (HR.out _).mono ?_
    rintro e w3 ⟨rfl, b3⟩
    go_wp2_with fail
    go_ret
    exact ret_bl (by simp) (bon HB2.out b3)
theorem lawShowB (s : ByteArray) (w : World) (he : Env w) (hl : s.size ≤ maxLen) :
    Calls Tryd.prog 6 #[.string s] w (RetBool true w) := by
  have hm : maxLen = 9223372036854775807 := by decide
  rw [hm] at hl
  exact lawShow s.data.toList w he (by simpa using hl)
end Go.Proofs.YthmoplkleopahaaDoor
