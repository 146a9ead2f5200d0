/- Messages that came in. -/
import Derived.Test.YtikpcebhcnjkhaaGreatDoorSPl
import Derived.Test.YtikpcebhcnjkhaaGreatDoorSFrameQ
namespace Go.Proofs.YtikpcebhcnjkhaaGreatDoor.frame
open Go.Joins Go.ChangeShapes Go.WideShapes Go.ChangeAt Go.RowKit Go.Deep
open Go.ChangeMaps (open_string shut_string)
theorem cells_int64 : Tryz.prog.cellsOf 2 = 1 := by kernel_rfl
theorem cells___string : Tryz.prog.cellsOf 30 = 1 := by kernel_rfl
theorem cells___api_Signed : Tryz.prog.cellsOf 45 = 1 := by kernel_rfl
theorem cells___api_Status : Tryz.prog.cellsOf 43 = 1 := by kernel_rfl
theorem cells___api_Decided : Tryz.prog.cellsOf 44 = 1 := by kernel_rfl
theorem cells___api_Handover : Tryz.prog.cellsOf 46 = 1 := by kernel_rfl
theorem cells_api_Signed : Tryz.prog.cellsOf 42 = 6 := by kernel_rfl
theorem cells_api_Status : Tryz.prog.cellsOf 62 = 12 := by kernel_rfl
theorem cells_api_Decided : Tryz.prog.cellsOf 103 = 3 := by kernel_rfl
theorem cells_api_Handover : Tryz.prog.cellsOf 166 = 4 := by kernel_rfl
theorem cells_api_Snapshot : Tryz.prog.cellsOf 48 = 5 := by kernel_rfl
theorem cells_api_Message : Tryz.prog.cellsOf 50 = 21 := by kernel_rfl
section
variable {H : Type} {enc : TypeId × Value → H} {W : World}
set_option maxHeartbeats 2000000 in
theorem Sg_in (n : Nat) (cs : List Value) (x : DataW H × List MemPlace) (h : DataW.trod enc Tryz.prog W 0 (fun _ => true) true n 42 cs = some x) : ∃ a : Sg, cs = sgC a ∧ a.ok ∧ a.sz ≤ Rows.uptoBulk x.1 := by
 obtain ⟨ys, n', _, rfl, hl, hyl, hf⟩ := DataW.trod_struct Tryz.underlying42 h
 rw [cells_api_Signed] at hl
 obtain ⟨c0, r0, rfl, hl0⟩ := split1 hl
 obtain ⟨c1, r1, rfl, hl1⟩ := split1 hl0
 obtain ⟨c2, r2, rfl, hl2⟩ := split1 hl1
 obtain ⟨c3, r3, rfl, hl3⟩ := split1 hl2
 obtain ⟨c4, r4, rfl, hl4⟩ := split1 hl3
 obtain ⟨c5, r5, rfl, hl5⟩ := split1 hl4
 obtain rfl := List.length_eq_zero_iff.1 hl5
 obtain ⟨y0, q0, rfl, hyl0⟩ := split1 (n := 5) hyl
 obtain ⟨y1, q1, rfl, hyl1⟩ := split1 (n := 4) hyl0
 obtain ⟨y2, q2, rfl, hyl2⟩ := split1 (n := 3) hyl1
 obtain ⟨y3, q3, rfl, hyl3⟩ := split1 (n := 2) hyl2
 obtain ⟨y4, q4, rfl, hyl4⟩ := split1 (n := 1) hyl3
 obtain ⟨y5, q5, rfl, hyl5⟩ := split1 (n := 0) hyl4
 obtain rfl := List.length_eq_zero_iff.1 hyl5
 have t0 : DataW.trod enc Tryz.prog W 0 (fun _ => true) true n' 3 [c0] = some y0 := by
  have h9 := hf 0 _ rfl
  simp only [qk4,qk6,cells_int,qd2,qd3,qd4,qd6] at h9
  exact h9
 obtain ⟨a0, e0, x0, w0⟩ := DataW.trod_int Tryz.underlying3 t0
 obtain rfl : c0 = _ := by simpa using e0
 have t1 : DataW.trod enc Tryz.prog W 0 (fun _ => true) true n' 3 [c1] = some y1 := by
  have h9 := hf 1 _ rfl
  simp only [qk4,qk5,qk6,cells_int,qd1,qd2,qd3,qd4,qd5,qd6] at h9
  exact h9
 obtain ⟨a1, e1, x1, w1⟩ := DataW.trod_int Tryz.underlying3 t1
 obtain rfl : c1 = _ := by simpa using e1
 have t2 : DataW.trod enc Tryz.prog W 0 (fun _ => true) true n' 3 [c2] = some y2 := by
  have h9 := hf 2 _ rfl
  simp only [qk4,qk5,qk6,cells_int,qd1,qd2,qd3,qd4,qd5,qd6] at h9
  exact h9
 obtain ⟨a2, e2, x2, w2⟩ := DataW.trod_int Tryz.underlying3 t2
 obtain rfl : c2 = _ := by simpa using e2
 have t3 : DataW.trod enc Tryz.prog W 0 (fun _ => true) true n' 3 [c3] = some y3 := by
  have h9 := hf 3 _ rfl
  simp only [qk4,qk5,qk6,cells_int,qd1,qd2,qd3,qd4,qd5,qd6] at h9
  exact h9
 obtain ⟨a3, e3, x3, w3⟩ := DataW.trod_int Tryz.underlying3 t3
 obtain rfl : c3 = _ := by simpa using e3
 have t4 : DataW.trod enc Tryz.prog W 0 (fun _ => true) true n' 9 [c4] = some y4 := by
  have h9 := hf 4 _ rfl
  simp only [qk4,qk5,qk6,cells_string,qd1,qd2,qd3,qd4,qd5,qd6] at h9
  exact h9
 obtain ⟨a4, e4, x4, w4⟩ := DataW.trod_string Tryz.underlying9 t4
 obtain rfl : c4 = _ := by simpa using e4
 have t5 : DataW.trod enc Tryz.prog W 0 (fun _ => true) true n' 9 [c5] = some y5 := by
  have h9 := hf 5 _ rfl
  simp only [qk4,qk5,qk6,cells_string,qd1,qd2,qd3,qd4,qd5,qd6] at h9
  exact h9
 obtain ⟨a5, e5, x5, w5⟩ := DataW.trod_string Tryz.underlying9 t5
 obtain rfl : c5 = _ := by simpa using e5
 refine ⟨⟨a0, a1, a2, a3, a4.data.toList, a5.data.toList⟩, ?_, ⟨wf_i64 w0, wf_i64 w1, wf_i64 w2, wf_i64 w3⟩, ?_⟩
 · simp [sgC]
 · simp only [List.map_cons, List.map_nil, Rows.uptoBulk, Rows.uptoBulkAll, x0, x1, x2, x3, x4, x5]
   show Sg.sz _ ≤ _
   unfold Sg.sz
   simp only
   omega
set_option maxHeartbeats 2000000 in
theorem St_in (n : Nat) (cs : List Value) (x : DataW H × List MemPlace) (h : DataW.trod enc Tryz.prog W 0 (fun _ => true) true n 62 cs = some x) : ∃ a : St, cs = stC a ∧ a.ok W ∧ a.sz ≤ Rows.uptoBulk x.1 := by
 obtain ⟨ys, n', _, rfl, hl, hyl, hf⟩ := DataW.trod_struct Tryz.underlying62 h
 rw [cells_api_Status] at hl
 obtain ⟨c0, r0, rfl, hl0⟩ := split1 hl
 obtain ⟨c1, r1, rfl, hl1⟩ := split1 hl0
 obtain ⟨c2, r2, rfl, hl2⟩ := split1 hl1
 obtain ⟨c3, r3, rfl, hl3⟩ := split1 hl2
 obtain ⟨c4, r4, rfl, hl4⟩ := split1 hl3
 obtain ⟨c5, r5, rfl, hl5⟩ := split1 hl4
 obtain ⟨c6, r6, rfl, hl6⟩ := split1 hl5
 obtain ⟨c7, r7, rfl, hl7⟩ := split1 hl6
 obtain ⟨c8, r8, rfl, hl8⟩ := split1 hl7
 obtain ⟨c9, r9, rfl, hl9⟩ := split1 hl8
 obtain ⟨c10, r10, rfl, hl10⟩ := split1 hl9
 obtain ⟨c11, r11, rfl, hl11⟩ := split1 hl10
 obtain rfl := List.length_eq_zero_iff.1 hl11
 obtain ⟨y0, q0, rfl, hyl0⟩ := split1 (n := 6) hyl
 obtain ⟨y1, q1, rfl, hyl1⟩ := split1 (n := 5) hyl0
 obtain ⟨y2, q2, rfl, hyl2⟩ := split1 (n := 4) hyl1
 obtain ⟨y3, q3, rfl, hyl3⟩ := split1 (n := 3) hyl2
 obtain ⟨y4, q4, rfl, hyl4⟩ := split1 (n := 2) hyl3
 obtain ⟨y5, q5, rfl, hyl5⟩ := split1 (n := 1) hyl4
 obtain ⟨y6, q6, rfl, hyl6⟩ := split1 (n := 0) hyl5
 obtain rfl := List.length_eq_zero_iff.1 hyl6
 have t0 : DataW.trod enc Tryz.prog W 0 (fun _ => true) true n' 3 [c0] = some y0 := by
  have h9 := hf 0 _ rfl
  simp only [qk4,qk6,cells_int,qd2,qd3,qd4,qd6] at h9
  exact h9
 obtain ⟨a0, e0, x0, w0⟩ := DataW.trod_int Tryz.underlying3 t0
 obtain rfl : c0 = _ := by simpa using e0
 have t1 : DataW.trod enc Tryz.prog W 0 (fun _ => true) true n' 3 [c1] = some y1 := by
  have h9 := hf 1 _ rfl
  simp only [qk4,qk5,qk6,cells_int,qd1,qd2,qd3,qd4,qd5,qd6] at h9
  exact h9
 obtain ⟨a1, e1, x1, w1⟩ := DataW.trod_int Tryz.underlying3 t1
 obtain rfl : c1 = _ := by simpa using e1
 have t2 : DataW.trod enc Tryz.prog W 0 (fun _ => true) true n' 3 [c2] = some y2 := by
  have h9 := hf 2 _ rfl
  simp only [qk4,qk5,qk6,cells_int,qd1,qd2,qd3,qd4,qd5,qd6] at h9
  exact h9
 obtain ⟨a2, e2, x2, w2⟩ := DataW.trod_int Tryz.underlying3 t2
 obtain rfl : c2 = _ := by simpa using e2
 have t3 : DataW.trod enc Tryz.prog W 0 (fun _ => true) true n' 3 [c3] = some y3 := by
  have h9 := hf 3 _ rfl
  simp only [qk4,qk5,qk6,cells_int,qd1,qd2,qd3,qd4,qd5,qd6] at h9
  exact h9
 obtain ⟨a3, e3, x3, w3⟩ := DataW.trod_int Tryz.underlying3 t3
 obtain rfl : c3 = _ := by simpa using e3
 have t4 : DataW.trod enc Tryz.prog W 0 (fun _ => true) true n' 9 [c4] = some y4 := by
  have h9 := hf 4 _ rfl
  simp only [qk4,qk5,qk6,cells_string,qd1,qd2,qd3,qd4,qd5,qd6] at h9
  exact h9
 obtain ⟨a4, e4, x4, w4⟩ := DataW.trod_string Tryz.underlying9 t4
 obtain rfl : c4 = _ := by simpa using e4
 have t5 : DataW.trod enc Tryz.prog W 0 (fun _ => true) true n' 45 [c5] = some y5 := by
  have h9 := hf 5 _ rfl
  simp only [qk4,qk5,qk6,cells___api_Signed,qd1,qd2,qd3,qd4,qd5,qd6] at h9
  exact h9
 obtain ⟨a5, e5, rd5, ok5, x5⟩ := slice_in (C := sgC) (sz := Sg.sz) (ok := (fun a => a.ok)) (k := 6) (fun _ => rfl) (by decide) Tryz.underlying45 cells_api_Signed (fun n cs x h => Sg_in n cs x h) t5
 obtain rfl : c5 = _ := e5
 have t6 : DataW.trod enc Tryz.prog W 0 (fun _ => true) true n' 42 [c6, c7, c8, c9, c10, c11] = some y6 := by
  have h9 := hf 6 _ rfl
  simp only [qk4,qk5,qk6,cells_api_Signed,qd1,qd2,qd3,qd4,qd5,qd6] at h9
  exact h9
 obtain ⟨a6, e6, ok6, x6⟩ := Sg_in n' _ _ t6
 simp only [sgC, List.cons.injEq, and_true] at e6
 obtain ⟨rfl, rfl, rfl, rfl, rfl, rfl⟩ := e6
 refine ⟨⟨a0, a1, a2, a3, a4.data.toList, a5, a6⟩, ?_, ⟨⟨wf_i64 w0, wf_i64 w1, wf_i64 w2, wf_i64 w3⟩, rd5, ok5, ok6⟩, ?_⟩
 · simp [stC]
 · simp only [List.map_cons, List.map_nil, Rows.uptoBulk, Rows.uptoBulkAll, x0, x1, x2, x3, x4]
   show St.sz _ ≤ _
   unfold St.sz
   simp only
   omega
set_option maxHeartbeats 2000000 in
theorem De_in (n : Nat) (cs : List Value) (x : DataW H × List MemPlace) (h : DataW.trod enc Tryz.prog W 0 (fun _ => true) true n 103 cs = some x) : ∃ a : De, cs = deC a ∧ a.ok W ∧ a.sz ≤ Rows.uptoBulk x.1 := by
 obtain ⟨ys, n', _, rfl, hl, hyl, hf⟩ := DataW.trod_struct Tryz.underlying103 h
 rw [cells_api_Decided] at hl
 obtain ⟨c0, r0, rfl, hl0⟩ := split1 hl
 obtain ⟨c1, r1, rfl, hl1⟩ := split1 hl0
 obtain ⟨c2, r2, rfl, hl2⟩ := split1 hl1
 obtain rfl := List.length_eq_zero_iff.1 hl2
 obtain ⟨y0, q0, rfl, hyl0⟩ := split1 (n := 2) hyl
 obtain ⟨y1, q1, rfl, hyl1⟩ := split1 (n := 1) hyl0
 obtain ⟨y2, q2, rfl, hyl2⟩ := split1 (n := 0) hyl1
 obtain rfl := List.length_eq_zero_iff.1 hyl2
 have t0 : DataW.trod enc Tryz.prog W 0 (fun _ => true) true n' 3 [c0] = some y0 := by
  have h9 := hf 0 _ rfl
  simp only [qk4,qk6,cells_int,qd2,qd3,qd4,qd6] at h9
  exact h9
 obtain ⟨a0, e0, x0, w0⟩ := DataW.trod_int Tryz.underlying3 t0
 obtain rfl : c0 = _ := by simpa using e0
 have t1 : DataW.trod enc Tryz.prog W 0 (fun _ => true) true n' 9 [c1] = some y1 := by
  have h9 := hf 1 _ rfl
  simp only [qk4,qk5,qk6,cells_string,qd1,qd2,qd3,qd4,qd5,qd6] at h9
  exact h9
 obtain ⟨a1, e1, x1, w1⟩ := DataW.trod_string Tryz.underlying9 t1
 obtain rfl : c1 = _ := by simpa using e1
 have t2 : DataW.trod enc Tryz.prog W 0 (fun _ => true) true n' 45 [c2] = some y2 := by
  have h9 := hf 2 _ rfl
  simp only [qk4,qk5,qk6,cells___api_Signed,qd1,qd2,qd3,qd4,qd5,qd6] at h9
  exact h9
 obtain ⟨a2, e2, rd2, ok2, x2⟩ := slice_in (C := sgC) (sz := Sg.sz) (ok := (fun a => a.ok)) (k := 6) (fun _ => rfl) (by decide) Tryz.underlying45 cells_api_Signed (fun n cs x h => Sg_in n cs x h) t2
 obtain rfl : c2 = _ := e2
 refine ⟨⟨a0, a1.data.toList, a2⟩, ?_, ⟨wf_i64 w0, rd2, ok2⟩, ?_⟩
 · simp [deC]
 · simp only [List.map_cons, List.map_nil, Rows.uptoBulk, Rows.uptoBulkAll, x0, x1]
   show De.sz _ ≤ _
   unfold De.sz
   simp only
   omega
set_option maxHeartbeats 2000000 in
theorem Ho_in (n : Nat) (cs : List Value) (x : DataW H × List MemPlace) (h : DataW.trod enc Tryz.prog W 0 (fun _ => true) true n 166 cs = some x) : ∃ a : Ho, cs = hoC a ∧ a.ok W ∧ a.sz ≤ Rows.uptoBulk x.1 := by
 obtain ⟨ys, n', _, rfl, hl, hyl, hf⟩ := DataW.trod_struct Tryz.underlying166 h
 rw [cells_api_Handover] at hl
 obtain ⟨c0, r0, rfl, hl0⟩ := split1 hl
 obtain ⟨c1, r1, rfl, hl1⟩ := split1 hl0
 obtain ⟨c2, r2, rfl, hl2⟩ := split1 hl1
 obtain ⟨c3, r3, rfl, hl3⟩ := split1 hl2
 obtain rfl := List.length_eq_zero_iff.1 hl3
 obtain ⟨y0, q0, rfl, hyl0⟩ := split1 (n := 1) hyl
 obtain ⟨y1, q1, rfl, hyl1⟩ := split1 (n := 0) hyl0
 obtain rfl := List.length_eq_zero_iff.1 hyl1
 have t0 : DataW.trod enc Tryz.prog W 0 (fun _ => true) true n' 3 [c0] = some y0 := by
  have h9 := hf 0 _ rfl
  simp only [qk4,qk6,cells_int,qd2,qd3,qd4,qd6] at h9
  exact h9
 obtain ⟨a0, e0, x0, w0⟩ := DataW.trod_int Tryz.underlying3 t0
 obtain rfl : c0 = _ := by simpa using e0
 have t1 : DataW.trod enc Tryz.prog W 0 (fun _ => true) true n' 103 [c1, c2, c3] = some y1 := by
  have h9 := hf 1 _ rfl
  simp only [qk4,qk5,qk6,cells_api_Decided,qd1,qd2,qd3,qd4,qd5,qd6] at h9
  exact h9
 obtain ⟨a1, e1, ok1, x1⟩ := De_in n' _ _ t1
 simp only [deC, List.cons.injEq, and_true] at e1
 obtain ⟨rfl, rfl, rfl⟩ := e1
 refine ⟨⟨a0, a1⟩, ?_, ⟨wf_i64 w0, ok1⟩, ?_⟩
 · simp [hoC]
 · simp only [List.map_cons, List.map_nil, Rows.uptoBulk, Rows.uptoBulkAll, x0]
   show Ho.sz _ ≤ _
   unfold Ho.sz
   simp only
   omega
set_option maxHeartbeats 2000000 in
theorem Sn_in (n : Nat) (cs : List Value) (x : DataW H × List MemPlace) (h : DataW.trod enc Tryz.prog W 0 (fun _ => true) true n 48 cs = some x) : ∃ a : Sn, cs = snC a ∧ a.ok W ∧ a.sz ≤ Rows.uptoBulk x.1 := by
 obtain ⟨ys, n', _, rfl, hl, hyl, hf⟩ := DataW.trod_struct Tryz.underlying48 h
 rw [cells_api_Snapshot] at hl
 obtain ⟨c0, r0, rfl, hl0⟩ := split1 hl
 obtain ⟨c1, r1, rfl, hl1⟩ := split1 hl0
 obtain ⟨c2, r2, rfl, hl2⟩ := split1 hl1
 obtain ⟨c3, r3, rfl, hl3⟩ := split1 hl2
 obtain ⟨c4, r4, rfl, hl4⟩ := split1 hl3
 obtain rfl := List.length_eq_zero_iff.1 hl4
 obtain ⟨y0, q0, rfl, hyl0⟩ := split1 (n := 4) hyl
 obtain ⟨y1, q1, rfl, hyl1⟩ := split1 (n := 3) hyl0
 obtain ⟨y2, q2, rfl, hyl2⟩ := split1 (n := 2) hyl1
 obtain ⟨y3, q3, rfl, hyl3⟩ := split1 (n := 1) hyl2
 obtain ⟨y4, q4, rfl, hyl4⟩ := split1 (n := 0) hyl3
 obtain rfl := List.length_eq_zero_iff.1 hyl4
 have t0 : DataW.trod enc Tryz.prog W 0 (fun _ => true) true n' 3 [c0] = some y0 := by
  have h9 := hf 0 _ rfl
  simp only [qk4,qk6,cells_int,qd2,qd3,qd4,qd6] at h9
  exact h9
 obtain ⟨a0, e0, x0, w0⟩ := DataW.trod_int Tryz.underlying3 t0
 obtain rfl : c0 = _ := by simpa using e0
 have t1 : DataW.trod enc Tryz.prog W 0 (fun _ => true) true n' 9 [c1] = some y1 := by
  have h9 := hf 1 _ rfl
  simp only [qk4,qk5,qk6,cells_string,qd1,qd2,qd3,qd4,qd5,qd6] at h9
  exact h9
 obtain ⟨a1, e1, x1, w1⟩ := DataW.trod_string Tryz.underlying9 t1
 obtain rfl : c1 = _ := by simpa using e1
 have t2 : DataW.trod enc Tryz.prog W 0 (fun _ => true) true n' 30 [c2] = some y2 := by
  have h9 := hf 2 _ rfl
  simp only [qk4,qk5,qk6,cells___string,qd1,qd2,qd3,qd4,qd5,qd6] at h9
  exact h9
 obtain ⟨a2, e2, rd2, ok2, x2⟩ := slice_in (C := strV) (sz := szS) (ok := (fun a => True)) (k := 1) (fun _ => rfl) (by decide) Tryz.underlying30 cells_string (fun n cs x h => str_in n cs x h) t2
 obtain rfl : c2 = _ := e2
 have t3 : DataW.trod enc Tryz.prog W 0 (fun _ => true) true n' 45 [c3] = some y3 := by
  have h9 := hf 3 _ rfl
  simp only [qk4,qk5,qk6,cells___api_Signed,qd1,qd2,qd3,qd4,qd5,qd6] at h9
  exact h9
 obtain ⟨a3, e3, rd3, ok3, x3⟩ := slice_in (C := sgC) (sz := Sg.sz) (ok := (fun a => a.ok)) (k := 6) (fun _ => rfl) (by decide) Tryz.underlying45 cells_api_Signed (fun n cs x h => Sg_in n cs x h) t3
 obtain rfl : c3 = _ := e3
 have t4 : DataW.trod enc Tryz.prog W 0 (fun _ => true) true n' 46 [c4] = some y4 := by
  have h9 := hf 4 _ rfl
  simp only [qk4,qk5,qk6,cells___api_Handover,qd1,qd2,qd3,qd4,qd5,qd6] at h9
  exact h9
 obtain ⟨a4, e4, rd4, ok4, x4⟩ := slice_in (C := hoC) (sz := Ho.sz) (ok := (fun a => a.ok W)) (k := 4) (fun _ => rfl) (by decide) Tryz.underlying46 cells_api_Handover (fun n cs x h => Ho_in n cs x h) t4
 obtain rfl : c4 = _ := e4
 refine ⟨⟨a0, a1.data.toList, a2, a3, a4⟩, ?_, ⟨wf_i64 w0, rd2, ⟨rd3, ok3⟩, rd4, ok4⟩, ?_⟩
 · simp [snC]
 · simp only [List.map_cons, List.map_nil, Rows.uptoBulk, Rows.uptoBulkAll, x0, x1]
   show Sn.sz _ ≤ _
   unfold Sn.sz
   simp only
   omega
set_option maxHeartbeats 2000000 in
theorem Ms_in (n : Nat) (cs : List Value) (x : DataW H × List MemPlace) (h : DataW.trod enc Tryz.prog W 0 (fun _ => true) true n 50 cs = some x) : ∃ a : Ms, cs = msC a ∧ a.ok W ∧ a.sz ≤ Rows.uptoBulk x.1 := by
 obtain ⟨ys, n', _, rfl, hl, hyl, hf⟩ := DataW.trod_struct Tryz.underlying50 h
 rw [cells_api_Message] at hl
 obtain ⟨c0, r0, rfl, hl0⟩ := split1 hl
 obtain ⟨c1, r1, rfl, hl1⟩ := split1 hl0
 obtain ⟨c2, r2, rfl, hl2⟩ := split1 hl1
 obtain ⟨c3, r3, rfl, hl3⟩ := split1 hl2
 obtain ⟨c4, r4, rfl, hl4⟩ := split1 hl3
 obtain ⟨c5, r5, rfl, hl5⟩ := split1 hl4
 obtain ⟨c6, r6, rfl, hl6⟩ := split1 hl5
 obtain ⟨c7, r7, rfl, hl7⟩ := split1 hl6
 obtain ⟨c8, r8, rfl, hl8⟩ := split1 hl7
 obtain ⟨c9, r9, rfl, hl9⟩ := split1 hl8
 obtain ⟨c10, r10, rfl, hl10⟩ := split1 hl9
 obtain ⟨c11, r11, rfl, hl11⟩ := split1 hl10
 obtain ⟨c12, r12, rfl, hl12⟩ := split1 hl11
 obtain ⟨c13, r13, rfl, hl13⟩ := split1 hl12
 obtain ⟨c14, r14, rfl, hl14⟩ := split1 hl13
 obtain ⟨c15, r15, rfl, hl15⟩ := split1 hl14
 obtain ⟨c16, r16, rfl, hl16⟩ := split1 hl15
 obtain ⟨c17, r17, rfl, hl17⟩ := split1 hl16
 obtain ⟨c18, r18, rfl, hl18⟩ := split1 hl17
 obtain ⟨c19, r19, rfl, hl19⟩ := split1 hl18
 obtain ⟨c20, r20, rfl, hl20⟩ := split1 hl19
 obtain rfl := List.length_eq_zero_iff.1 hl20
 obtain ⟨y0, q0, rfl, hyl0⟩ := split1 (n := 11) hyl
 obtain ⟨y1, q1, rfl, hyl1⟩ := split1 (n := 10) hyl0
 obtain ⟨y2, q2, rfl, hyl2⟩ := split1 (n := 9) hyl1
 obtain ⟨y3, q3, rfl, hyl3⟩ := split1 (n := 8) hyl2
 obtain ⟨y4, q4, rfl, hyl4⟩ := split1 (n := 7) hyl3
 obtain ⟨y5, q5, rfl, hyl5⟩ := split1 (n := 6) hyl4
 obtain ⟨y6, q6, rfl, hyl6⟩ := split1 (n := 5) hyl5
 obtain ⟨y7, q7, rfl, hyl7⟩ := split1 (n := 4) hyl6
 obtain ⟨y8, q8, rfl, hyl8⟩ := split1 (n := 3) hyl7
 obtain ⟨y9, q9, rfl, hyl9⟩ := split1 (n := 2) hyl8
 obtain ⟨y10, q10, rfl, hyl10⟩ := split1 (n := 1) hyl9
 obtain ⟨y11, q11, rfl, hyl11⟩ := split1 (n := 0) hyl10
 obtain rfl := List.length_eq_zero_iff.1 hyl11
 have t0 : DataW.trod enc Tryz.prog W 0 (fun _ => true) true n' 3 [c0] = some y0 := by
  have h9 := hf 0 _ rfl
  simp only [qk4,qk6,cells_int,qd2,qd3,qd4,qd6] at h9
  exact h9
 obtain ⟨a0, e0, x0, w0⟩ := DataW.trod_int Tryz.underlying3 t0
 obtain rfl : c0 = _ := by simpa using e0
 have t1 : DataW.trod enc Tryz.prog W 0 (fun _ => true) true n' 3 [c1] = some y1 := by
  have h9 := hf 1 _ rfl
  simp only [qk4,qk5,qk6,cells_int,qd1,qd2,qd3,qd4,qd5,qd6] at h9
  exact h9
 obtain ⟨a1, e1, x1, w1⟩ := DataW.trod_int Tryz.underlying3 t1
 obtain rfl : c1 = _ := by simpa using e1
 have t2 : DataW.trod enc Tryz.prog W 0 (fun _ => true) true n' 3 [c2] = some y2 := by
  have h9 := hf 2 _ rfl
  simp only [qk4,qk5,qk6,cells_int,qd1,qd2,qd3,qd4,qd5,qd6] at h9
  exact h9
 obtain ⟨a2, e2, x2, w2⟩ := DataW.trod_int Tryz.underlying3 t2
 obtain rfl : c2 = _ := by simpa using e2
 have t3 : DataW.trod enc Tryz.prog W 0 (fun _ => true) true n' 3 [c3] = some y3 := by
  have h9 := hf 3 _ rfl
  simp only [qk4,qk5,qk6,cells_int,qd1,qd2,qd3,qd4,qd5,qd6] at h9
  exact h9
 obtain ⟨a3, e3, x3, w3⟩ := DataW.trod_int Tryz.underlying3 t3
 obtain rfl : c3 = _ := by simpa using e3
 have t4 : DataW.trod enc Tryz.prog W 0 (fun _ => true) true n' 3 [c4] = some y4 := by
  have h9 := hf 4 _ rfl
  simp only [qk4,qk5,qk6,cells_int,qd1,qd2,qd3,qd4,qd5,qd6] at h9
  exact h9
 obtain ⟨a4, e4, x4, w4⟩ := DataW.trod_int Tryz.underlying3 t4
 obtain rfl : c4 = _ := by simpa using e4
 have t5 : DataW.trod enc Tryz.prog W 0 (fun _ => true) true n' 9 [c5] = some y5 := by
  have h9 := hf 5 _ rfl
  simp only [qk4,qk5,qk6,cells_string,qd1,qd2,qd3,qd4,qd5,qd6] at h9
  exact h9
 obtain ⟨a5, e5, x5, w5⟩ := DataW.trod_string Tryz.underlying9 t5
 obtain rfl : c5 = _ := by simpa using e5
 have t6 : DataW.trod enc Tryz.prog W 0 (fun _ => true) true n' 2 [c6] = some y6 := by
  have h9 := hf 6 _ rfl
  simp only [qk4,qk5,qk6,cells_int64,qd1,qd2,qd3,qd4,qd5,qd6] at h9
  exact h9
 obtain ⟨a6, e6, x6, w6⟩ := DataW.trod_int Tryz.underlying2 t6
 obtain rfl : c6 = _ := by simpa using e6
 have t7 : DataW.trod enc Tryz.prog W 0 (fun _ => true) true n' 42 [c7, c8, c9, c10, c11, c12] = some y7 := by
  have h9 := hf 7 _ rfl
  simp only [qk4,qk5,qk6,cells_api_Signed,qd1,qd2,qd3,qd4,qd5,qd6] at h9
  exact h9
 obtain ⟨a7, e7, ok7, x7⟩ := Sg_in n' _ _ t7
 simp only [sgC, List.cons.injEq, and_true] at e7
 obtain ⟨rfl, rfl, rfl, rfl, rfl, rfl⟩ := e7
 have t8 : DataW.trod enc Tryz.prog W 0 (fun _ => true) true n' 43 [c13] = some y8 := by
  have h9 := hf 8 _ rfl
  simp only [qk4,qk5,qk6,cells___api_Status,qd1,qd2,qd3,qd4,qd5,qd6] at h9
  exact h9
 obtain ⟨a8, e8, rd8, ok8, x8⟩ := slice_in (C := stC) (sz := St.sz) (ok := (fun a => a.ok W)) (k := 12) (fun _ => rfl) (by decide) Tryz.underlying43 cells_api_Status (fun n cs x h => St_in n cs x h) t8
 obtain rfl : c13 = _ := e8
 have t9 : DataW.trod enc Tryz.prog W 0 (fun _ => true) true n' 44 [c14] = some y9 := by
  have h9 := hf 9 _ rfl
  simp only [qk4,qk5,qk6,cells___api_Decided,qd1,qd2,qd3,qd4,qd5,qd6] at h9
  exact h9
 obtain ⟨a9, e9, rd9, ok9, x9⟩ := slice_in (C := deC) (sz := De.sz) (ok := (fun a => a.ok W)) (k := 3) (fun _ => rfl) (by decide) Tryz.underlying44 cells_api_Decided (fun n cs x h => De_in n cs x h) t9
 obtain rfl : c14 = _ := e9
 have t10 : DataW.trod enc Tryz.prog W 0 (fun _ => true) true n' 48 [c15, c16, c17, c18, c19] = some y10 := by
  have h9 := hf 10 _ rfl
  simp only [qk4,qk5,qk6,cells_api_Snapshot,qd1,qd2,qd3,qd4,qd5,qd6] at h9
  exact h9
 obtain ⟨a10, e10, ok10, x10⟩ := Sn_in n' _ _ t10
 simp only [snC, List.cons.injEq, and_true] at e10
 obtain ⟨rfl, rfl, rfl, rfl, rfl⟩ := e10
 have t11 : DataW.trod enc Tryz.prog W 0 (fun _ => true) true n' 30 [c20] = some y11 := by
  have h9 := hf 11 _ rfl
  simp only [qk4,qk5,qk6,cells___string,qd1,qd2,qd3,qd4,qd5,qd6] at h9
  exact h9
 obtain ⟨a11, e11, rd11, ok11, x11⟩ := slice_in (C := strV) (sz := szS) (ok := (fun a => True)) (k := 1) (fun _ => rfl) (by decide) Tryz.underlying30 cells_string (fun n cs x h => str_in n cs x h) t11
 obtain rfl : c20 = _ := e11
 refine ⟨⟨a0, a1, a2, a3, a4, a5.data.toList, a6, a7, a8, a9, a10, a11⟩, ?_, ⟨⟨wf_i64 w0, wf_i64 w1, wf_i64 w2, wf_i64 w3, wf_i64 w4, wf_i64 w6⟩, ok7, ⟨rd8, ok8⟩, ⟨rd9, ok9⟩, ok10, rd11⟩, ?_⟩
 · simp [msC]
 · simp only [List.map_cons, List.map_nil, Rows.uptoBulk, Rows.uptoBulkAll, x0, x1, x2, x3, x4, x5, x6]
   show Ms.sz _ ≤ _
   unfold Ms.sz
   simp only
   omega
set_option maxRecDepth 100000 in
theorem msg_in {base : Nat} {v : Value} {d : DataW H} {p : List MemPlace} (hv : Value.okWide Tryz.prog W .any base 50 v) (h : DataW.Trod enc Tryz.prog W 0 (fun _ => true) true 50 v d p) :
    ∃ m : Ms, v = .agg (msC m).toArray ∧ m.ok W ∧ m.sz ≤ Rows.uptoBulk d := by
 obtain ⟨cs, rfl⟩ := cells_of_agg Tryz.underlying50 hv
 obtain ⟨n, hn⟩ := h
 obtain ⟨m, hm, hok, hsz⟩ := Ms_in n _ _ hn
 refine ⟨m, ?_, hok, hsz⟩
 have hm' : cs.toList = msC m := hm
 rw [← hm']
end
end Go.Proofs.YtikpcebhcnjkhaaGreatDoor.frame
