/- The examples. -/
import Derived.Deep.Cut
import Derived.Deep.CutRange
import Derived.Test.YtikpcebhcnjkhaaGreatDoorDPl
import Derived.Test.YtikpcebhcnjkhaaGreatDoorDA8
import Derived.Test.YtikpcebhcnjkhaaGreatDoorDAdvM4
namespace Go.Proofs.YtikpcebhcnjkhaaGreatDoor
open Go.RowKit Q40
theorem setup_ex (w : World) : Calls Tryz.prog 8 #[.agg #[.int .u8 1, .int .u8 9, .int .u8 0, .slice none 0 0]] w (RetDep 4 0 w) :=
 setup4_any 1 9 0 ⟨none, 0, []⟩ w (by decide) (by decide) (by decide) (by decide) (Rd.nil _ _ _) (fun d h => by cases h)
theorem by_new (w : World) (T : TypeId) : ∀ j v, (BY [2, 0, 1, 0, 0, 1, 0])[j]? = some v → (w.alloc (.cells #[.int .u8 2, .int .u8 0, .int .u8 1, .int .u8 0, .int .u8 0, .int .u8 1, .int .u8 0] T)).cell? ⟨w.heap.size, j, none⟩ = some v := fun j v h => by
 have h9 := cell_new w (BY [2, 0, 1, 0, 0, 1, 0]) T w.heap.size rfl j v h
 rw [add_off, Nat.zero_add] at h9
 exact h9
set_option maxRecDepth 100000 in
set_option maxHeartbeats 4000000 in
theorem awake51 (w : World) (he : EnvP w) (ht : Tz w) : Calls Tryz.prog 7 #[] w (RetBool true w) := by
 have HE := hD he
 have HT := hD ht
 clear he ht
 go_enter Tryz.func7, Tryz.ntmps7
 go_wp2_with fail
 refine (setup_ex _).mono ?_
 rintro e w1 ⟨⟨A, B, D, E, F, u, c, n2, c2, n3, c3, n4, c4, c5, rfl⟩, hb⟩
 have HD := hD (Vz.new w1 [.slice A 4 c, .slice B n2 c2, .int .u16 u, .slice D n3 c3, .slice E n4 c4, .slice F 0 c5] 36)
 have HL := hD (bon hb (below_new w1 (.cells #[.slice A 4 c, .slice B n2 c2, .int .u16 u, .slice D n3 c3, .slice E n4 c4, .slice F 0 c5] 36)))
 clear hb
 go_upto_region 2 with fail
 generalize w1.alloc (.cells #[.slice A 4 c, .slice B n2 c2, .int .u16 u, .slice D n3 c3, .slice E n4 c4, .slice F 0 c5] 36) = w2 at HD HL ⊢
 generalize w1.heap.size = gd at HD ⊢
 have d0 := HD.out.cells 0 _ rfl
 have d1 := HD.out.cells 1 _ rfl
 have d2 := HD.out.cells 2 _ rfl
 have d3 := HD.out.cells 3 _ rfl
 have d4 := HD.out.cells 4 _ rfl
 have d5 := HD.out.cells 5 _ rfl
 have ld := HD.out.lt
 have hDec : Calls Tryz.prog 14 #[.agg #[.slice A 4 c, .slice B n2 c2, .int .u16 u, .slice D n3 c3, .slice E n4 c4, .slice F 0 c5], .int .u16 4, .slice (some ⟨w2.heap.size, 0, none⟩) 7 7] (w2.alloc (.cells #[.int .u8 2, .int .u8 0, .int .u8 1, .int .u8 0, .int .u8 0, .int .u8 1, .int .u8 0] 5)) (fun e w' => e = .returned (.tuple #[.agg #[.int .i64 3, .int .i64 2, .int .i64 1, .int .i64 1, .int .i64 0, .int .i64 1, .int .i64 0], .int .i64 0]) ∧ Below (w2.alloc (.cells #[.int .u8 2, .int .u8 0, .int .u8 1, .int .u8 0, .int .u8 0, .int .u8 1, .int .u8 0] 5)).heap.size (w2.alloc (.cells #[.int .u8 2, .int .u8 0, .int .u8 1, .int .u8 0, .int .u8 0, .int .u8 1, .int .u8 0] 5)) w') :=
  decode_ex A B D E F u c n2 c2 n3 c3 n4 c4 c5 w2.heap.size _ (HT.out.below (bon HL.out (below_new _ _))) (by simp) (by_new w2 _)
 have HDec := hD hDec
 clear hDec
 go_wp2_with fail
 refine HDec.out.mono ?_
 rintro e w3 ⟨rfl, hb⟩
 have hb3 := bon (below_new w2 _) hb
 clear d0 d1 d2 d3 d4 d5 ld HDec hb
 have HD := hD ((HD.out.below hb3).below (below_new w3 (.cells #[.int .i64 3, .int .i64 2, .int .i64 1, .int .i64 1, .int .i64 0, .int .i64 1, .int .i64 0] 28)))
 have HLi := hD (Vz.new w3 [.int .i64 3, .int .i64 2, .int .i64 1, .int .i64 1, .int .i64 0, .int .i64 1, .int .i64 0] 28)
 have HL := hD (bon (bon HL.out hb3) (below_new w3 (.cells #[.int .i64 3, .int .i64 2, .int .i64 1, .int .i64 1, .int .i64 0, .int .i64 1, .int .i64 0] 28)))
 clear hb3
 go_upto_region 3 with fail
 generalize w3.alloc (.cells #[.int .i64 3, .int .i64 2, .int .i64 1, .int .i64 1, .int .i64 0, .int .i64 1, .int .i64 0] 28) = w4 at HD HLi HL ⊢
 generalize w3.heap.size = gl at HLi ⊢
 have d0 := HD.out.cells 0 _ rfl
 have d1 := HD.out.cells 1 _ rfl
 have d2 := HD.out.cells 2 _ rfl
 have d3 := HD.out.cells 3 _ rfl
 have d4 := HD.out.cells 4 _ rfl
 have d5 := HD.out.cells 5 _ rfl
 have l0 := HLi.out.cells 0 _ rfl
 have l1 := HLi.out.cells 1 _ rfl
 have l2 := HLi.out.cells 2 _ rfl
 have l3 := HLi.out.cells 3 _ rfl
 have l4 := HLi.out.cells 4 _ rfl
 have l5 := HLi.out.cells 5 _ rfl
 have l6 := HLi.out.cells 6 _ rfl
 have ld := HD.out.lt
 have ll := HLi.out.lt
 go_wp2_with fail
 refine (message_ex A B D E F u c n2 c2 n3 c3 n4 c4 c5 _ (HE.out.below HL.out)).mono ?_
 rintro e w5 ⟨⟨v, hx, tx, rfl⟩, hb⟩
 obtain ⟨x, hx9⟩ : ∃ x, x = exMg v hx tx := ⟨_, rfl⟩
 have HX := hD hx9
 rw [← hx9]
 clear hx9 d0 d1 d2 d3 d4 d5 l0 l1 l2 l3 l4 l5 l6 ld ll HD
 have HZ := hD (Vz.new w5 (msC msZ) 50)
 have HM := hD (HZ.out.sets (msC x) rfl)
 have hbz := below_new w5 (.cells (msC msZ).toArray 50)
 have HLi := hD (((HLi.out.below hb).below hbz).grown (grown_setsA _ w5.heap.size (msC x) 0) (by have := HLi.out.lt; have := hb.size; simp; omega))
 have HL := hD (below_grA (bon (bon HL.out hb) hbz) (grown_setsA _ w5.heap.size (msC x) 0) (bon HL.out hb).size)
 clear hb hbz
 go_upto_region 4 with (refine wpList_store_mid rfl 50 _ _ rfl w5.heap.size 0 (msC x).toArray rfl rfl ?_ (infoMsA x) (msC_oneA x) ?_; · exact HZ.out.there rfl)
 try simp only [List.toList_toArray]
 change Code.wp _ _ _ _ ((w5.alloc (.cells (msC msZ).toArray 50)).setCells w5.heap.size 0 (msC x))
 generalize (w5.alloc (.cells (msC msZ).toArray 50)).setCells w5.heap.size 0 (msC x) = w6 at HLi HM HL ⊢
 clear HZ
 generalize w5.heap.size = gm at HM ⊢
 have m0 : w6.cell? ⟨gm, 0, none⟩ = some (.int .i64 3) := HM.out.cells 0 _ (by rw [HX.out]; rfl)
 have m1 : w6.cell? ⟨gm, 1, none⟩ = some (.int .i64 2) := HM.out.cells 1 _ (by rw [HX.out]; rfl)
 have m2 : w6.cell? ⟨gm, 2, none⟩ = some (.int .i64 1) := HM.out.cells 2 _ (by rw [HX.out]; rfl)
 have m13 : w6.cell? ⟨gm, 13, none⟩ = some (.slice none 0 0) := HM.out.cells 13 _ (by rw [HX.out]; rfl)
 have m7 : w6.cell? ⟨gm, 7, none⟩ = some (.int .i64 2) := HM.out.cells 7 _ (by rw [HX.out]; rfl)
 have l0 := HLi.out.cells 0 _ rfl
 have l1 := HLi.out.cells 1 _ rfl
 have l2 := HLi.out.cells 2 _ rfl
 have l3 := HLi.out.cells 3 _ rfl
 have l4 := HLi.out.cells 4 _ rfl
 have l5 := HLi.out.cells 5 _ rfl
 have l6 := HLi.out.cells 6 _ rfl
 have ll := HLi.out.lt
 have lm := HM.out.lt
 go_wp2_with fail
 go_ret
 exact ret_bl rfl HL.out
end Go.Proofs.YtikpcebhcnjkhaaGreatDoor
