/- The law AdversaryHonest. -/
import Derived.Deep.Cut
import Derived.Deep.CutRange
import Derived.Test.YtikpcebhcnjkhaaGreatDoorHPl
import Derived.Test.YtikpcebhcnjkhaaGreatDoorHAdvAk
import Derived.Test.YtikpcebhcnjkhaaGreatDoorHAdvFw
namespace Go.Proofs.YtikpcebhcnjkhaaGreatDoor
open Go.RowKit Q40
theorem wpList_load_wanted {P : Program} {ops : Array Oper} {rest : List Oper} {op : Oper} {a : Act} {w : World} {Q : Exit → Act → World → Prop} (hw : Region.wanted op (yielded ops a.tmps) = true) (ty : TypeId) (x : Operand) (ho : op.op = .load ty x)
    (b o : Nat) (hx : a.eval x = .pointer (some ⟨b, o, none⟩)) (cs : List Value) (d : TypeDesc) (hc : w.rangeAt b o cs)
    (hu : P.underlying ty = some d) (hd : d.isRow = true) (hi : (P.info? ty).map (·.size) = some cs.length)
    (h : wpList P ops Q rest (a.put op.dst (.agg cs.toArray)) w) : wpList P ops Q (op :: rest) a w := by
 unfold wpList
 rw [if_pos hw]
 exact .inl (wp_load_mid ty x ho b o hx cs d hc hu hd hi h)
set_option maxRecDepth 100000 in
set_option maxHeartbeats 2000000 in
theorem honP_any (m : Ms) (s : Nat) (w : World) (hs : s < 65536) : Calls Tryz.prog 12 #[.agg (msC m).toArray, .int .u16 (s : Int)] w (RetBool (!hasB s m.src) w) := by
 have c1 : (w.alloc (.cells (msC m).toArray 50)).cell? ⟨w.heap.size, 1, none⟩ = some (.int .i64 m.src) := bx_cell (bx_new w (msC m) 50) 1 _ rfl
 have HB := hD (below_new w (.cells (msC m).toArray 50))
 obtain ⟨x, hx⟩ : ∃ x, x = m.src := ⟨_, rfl⟩
 rw [← hx] at c1 ⊢
 by_cases h0 : x < 0
 · have HF : Hid (hasB s x = false) := hD (hasB_no s x (by omega))
   clear hx
   go_enter Tryz.func12, Tryz.ntmps12
   go_wp2_with fail
   go_ret
   exact ret_bl (by rw [HF.out]; rfl) HB.out
 · by_cases h1 : x < 16
   · obtain ⟨k, rfl⟩ := Int.eq_ofNat_of_zero_le (by omega : 0 ≤ x)
     have hk : k < 16 := by omega
     have HF := hD (hasB_at s k hk)
     have hb := bit_one s k hs
     clear hx
     cases ht : s.testBit k
     · rw [ht] at hb HF
       simp only [Bool.false_eq_true, if_false] at hb
       go_enter Tryz.func12, Tryz.ntmps12
       go_wp2_with fail
       go_ret
       exact ret_bl (by rw [HF.out]; rfl) HB.out
     · rw [ht] at hb HF
       simp only [if_true] at hb
       go_enter Tryz.func12, Tryz.ntmps12
       go_wp2_with fail
       go_ret
       exact ret_bl (by rw [HF.out]; rfl) HB.out
   · have HF : Hid (hasB s x = false) := hD (hasB_no s x (by omega))
     have hz : (s : Int) / 65536 = 0 := Int.ediv_eq_zero_of_lt (by omega) (by omega)
     have hb : bits .and .u16 0 1 = 0 := by kernel_rfl
     clear hx
     go_enter Tryz.func12, Tryz.ntmps12
     go_wp2_with fail
     go_ret
     exact ret_bl (by rw [HF.out]; rfl) HB.out
set_option maxRecDepth 100000 in
set_option maxHeartbeats 2000000 in
theorem honR_any (m : Ms) (s : Nat) (w : World) (hs : s < 65536) : Calls Tryz.prog 13 #[.agg (msC m).toArray, .int .u16 (s : Int)] w (RetBool (!hasB s m.src) w) := by
 have c1 : (w.alloc (.cells (msC m).toArray 50)).cell? ⟨w.heap.size, 1, none⟩ = some (.int .i64 m.src) := bx_cell (bx_new w (msC m) 50) 1 _ rfl
 have HB := hD (below_new w (.cells (msC m).toArray 50))
 obtain ⟨x, hx⟩ : ∃ x, x = m.src := ⟨_, rfl⟩
 rw [← hx] at c1 ⊢
 have HC := hD (fun W => has7_any s x W hs)
 clear hx hs
 go_enter Tryz.func13, Tryz.ntmps13
 go_wp2_with fail
 refine (HC.out _).mono ?_
 rintro e w2 ⟨rfl, rfl⟩
 go_wp2_with fail
 go_ret
 exact ret_bl rfl HB.out
set_option maxRecDepth 100000 in
set_option maxHeartbeats 8000000 in
theorem lawHonest51 (m : Ms) (s : Nat) (w : World) (he : EnvP w) (ht : Tz w) (hs : s < 65536) (hok : m.ok w) (hsz : m.sz ≤ 16777216) : Calls Tryz.prog 4 #[.agg (msC m).toArray, .int .u16 (s : Int)] w (RetBool true w) := by
 have HAw : Hid (∀ W, Below w.heap.size w W → Calls Tryz.prog 7 #[] W (RetBool true W)) := hD (fun W hb => awake51 W (he.below hb) (ht.below hb))
 have HFw : Hid (∀ W, Below w.heap.size w W → Calls Tryz.prog 11 #[.agg (msC m).toArray] W (RetBool (few51 m) W)) := hD (fun W hb => few51_any m W (Ms.below hok hb) hsz)
 have HHP := hD (fun W => honP_any m s W hs)
 have HHR := hD (fun W => honR_any m s W hs)
 have H0 := hD (bx_new w (msC m) 50)
 have HRow : Hid (∀ W, Bx w (msC m) 50 W → W.rangeAt w.heap.size 0 (msC m)) := hD (fun W hb j v hv => by rw [Nat.zero_add]; exact bx_cell hb j v hv)
 obtain ⟨b, hb⟩ : ∃ b, b = hasB s m.src := ⟨_, rfl⟩
 rw [← hb] at HHP HHR
 clear he ht hs hok hsz hb
 go_enter Tryz.func4, Tryz.ntmps4
 go_wp2_with fail
 refine (HAw.out _ (bx_low H0.out)).mono ?_
 rintro e w1 ⟨rfl, hb⟩
 have HX := hD (bx_on H0.out hb)
 clear hb
 go_wp2_with (refine wpList_load_wanted (by rfl) 50 _ rfl _ 0 rfl (msC m) _ (HRow.out _ HX.out) Tryz.underlying50 rfl (infoMs m) ?_)
 refine (HFw.out _ (bx_low HX.out)).mono ?_
 rintro e w3 ⟨rfl, hb⟩
 have HX := hD (bx_on HX.out hb)
 clear hb
 cases few51 m
 · go_wp2_with fail
   refine (HAw.out _ (bx_low HX.out)).mono ?_
   rintro e w4 ⟨rfl, hb⟩
   have HL := hD (bx_low (bx_on HX.out hb))
   clear hb
   go_wp2_with fail
   go_ret
   exact ret_bl rfl HL.out
 · go_upto_region 3 with fail
   have HX : Hid (Bx w (msC m) 50 w3.drew) := hD (bx_drew HX.out)
   generalize hv : w3.drew = v0 at HX
   have hS0 : World.rangeAt v0 w.heap.size 0 (msC m) := HRow.out _ HX.out
   refine wp_region_held_drew (S := fun W => World.rangeAt W w.heap.size 0 (msC m)) (by kernel_rfl) (by rw [hv]; exact hS0) (fun hHeld => ?_)
   rw [hv] at hHeld ⊢
   clear hv
   refine tkq 0 rfl (yieldsIf_load_mid (by rfl) 50 _ (by rfl) _ _ (by rfl) (msC m) _ (fun W h => h) Tryz.underlying50 rfl (infoMs m)) (by assumption) ?_
   try simp only [Act.put,qk1,qk2,qk3,qk4,qk6]
   refine tkq 1 rfl (v := ?_) (.inl ⟨by rfl, ?_⟩) (by assumption) ?_
   rotate_left
   · intro W h; (try dsimp only at h); go_simp; try with_reducible rfl
   try simp only [Act.put,qk1,qk2,qk3,qk4,qk5,qk6]
   refine tkq 3 rfl (yieldsIf_load_mid (by rfl) 50 _ (by rfl) _ _ (by rfl) (msC m) _ (fun W h => h) Tryz.underlying50 rfl (infoMs m)) (by assumption) ?_
   try simp only [Act.put,qk1,qk2,qk3,qk4,qk5,qk6]
   refine tkq 4 rfl (v := ?_) (.inl ⟨by rfl, ?_⟩) (by assumption) ?_
   rotate_left
   · intro W h; (try dsimp only at h); go_simp; try with_reducible rfl
   try simp only [Act.put,qk1,qk2,qk3,qk4,qk5,qk6]
   refine tkr 2 rfl (fun K hK => ?_)
   go_simp
   go_at_call 12
   refine (HHP.out _).mono ?_
   rintro e v1 ⟨rfl, hs⟩
   have HX := hD (bx_on HX.out hs)
   clear hs
   go_wp2_with fail
   have hS1 : World.rangeAt v1 w.heap.size 0 (msC m) := HRow.out _ HX.out
   refine hK.out _ _ hS1 (fun hHeld => ?_)
   clear hK K
   try simp only [Act.put,qk1,qk2,qk3,qk4,qk5,qk6]
   refine tkr 5 rfl (fun K hK => ?_)
   go_simp
   go_at_call 13
   refine (HHR.out _).mono ?_
   rintro e v2 ⟨rfl, hs⟩
   have HX := hD (bx_on HX.out hs)
   clear hs
   go_wp2_with fail
   have hS2 : World.rangeAt v2 w.heap.size 0 (msC m) := HRow.out _ HX.out
   refine hK.out _ _ hS2 (fun hHeld => ?_)
   clear hK K
   try simp only [Act.put,qk1,qk2,qk3,qk4,qk5,qk6]
   refine tkq 6 rfl (v := ?_) (.inl ⟨by rfl, ?_⟩) (by assumption) ?_
   rotate_left
   · intro W h; (try dsimp only at h); go_simp; try with_reducible rfl
   try simp only [Act.put,qk1,qk2,qk3,qk4,qk5,qk6]
   refine tkq 7 rfl (v := ?_) (.inl ⟨by rfl, ?_⟩) (by assumption) ?_
   rotate_left
   · intro W h; (try dsimp only at h); go_simp; try with_reducible rfl
   try simp only [Act.put,qk1,qk2,qk3,qk4,qk5,qk6]
   refine wpAnyH_done (by kernel_rfl) ?_ _
   go_wp2_with fail
   go_ret
   exact ret_bl (by simp) (bx_low HX.out)
end Go.Proofs.YtikpcebhcnjkhaaGreatDoor
