/- slices.Equal at signatures. -/
import Derived.Shelf.SlicesQ.Equal
import Derived.Test.YtikpcebhcnjkhaaGreatDoorSVb
import Derived.Test.YtikpcebhcnjkhaaGreatDoorSPl
import Derived.Test.YtikpcebhcnjkhaaGreatDoorSVa
namespace Go.Proofs.YtikpcebhcnjkhaaGreatDoor
open Go.RowKit Go.Shelf
instance : Inhabited Sg := ⟨⟨0, 0, 0, 0, [], []⟩⟩
theorem sgC_six (x : Sg) : (sgC x).length = 6 := rfl
def renEq : Go.Shelf.Ren := ⟨fun | 8 => 72 | n => n, fun | 22 => 45 | 24 => 42 | 4 => 4 | 3 => 3 | 0 => 0 | n => n, fun n => n⟩
theorem laysEq : SlLaysQ.n8 Tryz.prog renEq := {
 mixed := by kernel_rfl
 f8 := ⟨ "slices.Equal[[]sederunt/api.Signed,sederunt/api.Signed]", by decide, Tryz.func72.trans (congrArg some (by kernel_rfl))⟩
 t0 := Tryz.underlying0
 a0 := Tryz.isAgg0
 z0 := Tryz.sizeOf0
 v0 := Tryz.zeroValue0
 t3 := Tryz.underlying3
 a3 := Tryz.isAgg3
 z3 := Tryz.sizeOf3
 v3 := Tryz.zeroValue3
 t4 := Tryz.underlying4
 a4 := Tryz.isAgg4
 z4 := Tryz.sizeOf4
 v4 := Tryz.zeroValue4
 t22 := Tryz.underlying45
 a22 := Tryz.isAgg45
 z22 := Tryz.sizeOf45
 v22 := Tryz.zeroValue45 }
theorem allEq_dec : ∀ (l1 l2 : List Sg), Lib.allEq (fun x y => decide (x = y)) l1 l2 = decide (l1 = l2)
 | [], [] => rfl
 | [], _ :: _ => rfl
 | _ :: _, [] => rfl
 | x :: r, y :: s => by
  rw [Lib.allEq, allEq_dec r s, Bool.eq_iff_iff]
  simp
theorem neq_sg : NeqAt Tryz.prog 42 (fun x => .agg (sgC x).toArray) (fun x y => decide (x = y)) :=
 ⟨fun x y w => by rw [run_neq_struct]; have h := run_sg x y w; simp only [sgC]; rw [h]; rfl, GuardAt.agg (fun x => (sgC x).toArray) (by kernel_rfl)⟩
theorem flat_bang (l : List Sg) (j : Nat) (hj : j < l.length) (i : Nat) (v : Value) (hv : (sgC l[j]!)[i]? = some v) : (l.flatMap sgC)[j * 6 + i]? = some v := by
 have hi : i < 6 := by have := (List.getElem?_eq_some_iff.1 hv).1; rwa [sgC_six] at this
 rw [flat_get sgC 6 sgC_six l j hj i hi, ← getElem!_pos l j hj]
 exact hv
set_option maxRecDepth 100000 in
set_option maxHeartbeats 4000000 in
theorem slEqual_any (A : Option Addr) (c : Nat) (l1 : List Sg) (B : Option Addr) (d : Nat) (l2 : List Sg) (w : World) (h1 : Rd w 6 A l1.length (l1.flatMap sgC)) (h2 : Rd w 6 B l2.length (l2.flatMap sgC)) (n1 : l1.length ≤ 16777216) (n2 : l2.length ≤ 16777216) :
    Calls Tryz.prog 72 #[.slice A l1.length c, .slice B l2.length d] w (RetBool (decide (l1 = l2)) w) := by
 have f1 := flat_len sgC 6 sgC_six l1
 have f2 := flat_len sgC 6 sgC_six l2
 by_cases hl : l1.length = l2.length
 · by_cases hp : 0 < l1.length
   · obtain ⟨b1, o1, rfl, _, c1⟩ := h1.cells (by omega)
     obtain ⟨b2, o2, rfl, _, c2⟩ := h2.cells (by omega)
     have hE := AnyQ.slices_Equal laysEq 6 Tryz.isAgg42 Tryz.sizeOf42 sgC sgC_six _ neq_sg b1 o1 l1.length c b2 o2 l2.length d l1 l2 w (Nat.le_refl _) (Nat.le_refl _) (by omega) (by omega)
      (fun j hj i v hv => by rw [Nat.add_assoc]; exact c1 _ v (flat_bang l1 j hj i v hv)) (fun j hj i v hv => by rw [Nat.add_assoc]; exact c2 _ v (flat_bang l2 j hj i v hv))
     refine hE.mono ?_
     rintro e w' ⟨rfl, q, rfl⟩
     rw [List.take_length, List.take_length, allEq_dec]
     exact ⟨rfl, bdN (Below.refl _ _) q⟩
   · obtain rfl : l1 = [] := List.eq_nil_of_length_eq_zero (by omega)
     obtain rfl : l2 = [] := List.eq_nil_of_length_eq_zero (by simpa using hl.symm)
     clear h1 h2 f1 f2
     go_enter Tryz.func72, Tryz.ntmps72
     try simp only [List.length_nil]
     go_wp2_with fail
     go_loop [13] (fun i => i = .int .i64 0) (fun _ => 0)
     case atStart => rfl
     case round =>
      subst hrel
      go_wp2_with fail
      go_ret
      exact ret_bl (by simp) (Below.refl _ _)
 · have hne : decide (l1 = l2) = false := decide_eq_false (fun h => hl (by rw [h]))
   rw [hne]
   have hne1 : ((l1.length : Int) == (l2.length : Int)) = false := by simp; omega
   clear h1 h2 f1 f2 hne
   go_enter Tryz.func72, Tryz.ntmps72
   go_wp2_with fail
   go_ret
   exact ret_bl rfl (Below.refl _ _)
end Go.Proofs.YtikpcebhcnjkhaaGreatDoor
