/- Rotations; arrays of words. -/
import Derived.Deep.MidRow
import Derived.Laws.Rows
import Derived.Test.YtikpcebhcnjkhaaGreatDoorDPl
import Derived.Test.YtikpcebhcnjkhaaGreatDoorDA3
namespace Go.Proofs.YtikpcebhcnjkhaaGreatDoor
open Go.RowKit
set_option maxRecDepth 100000 in
set_option maxHeartbeats 2000000 in
theorem rotl2_any (x : Int) (w : World) : Calls Tryz.prog 175 #[.int .u32 x, .int .i64 (-2)] w (Same (.int .u32 (bits .or .u32 (x * 1073741824 % 4294967296) (x / 4))) w) := by
 have he : bits .and .u64 (IntKind.u64.wrap (-2)) 31 = 30 := by kernel_rfl
 go_enter Tryz.func175, Tryz.ntmps175
 go_wp2_with fail
 go_ret
 exact ⟨rfl, rfl⟩
set_option maxRecDepth 100000 in
set_option maxHeartbeats 2000000 in
theorem rotr2_any (x : Int) (w : World) : Calls Tryz.prog 163 #[.int .u32 x, .int .i64 2] w (fun e w' => e = .returned (.int .u32 (bits .or .u32 (x * 1073741824 % 4294967296) (x / 4))) ∧ w' = w) := by
 have HC := hD (rotl2_any x w)
 go_enter Tryz.func163, Tryz.ntmps163
 go_wp2_with fail
 refine HC.out.mono ?_
 rintro e w2 ⟨rfl, rfl⟩
 go_wp2_with fail
 go_ret
 exact ⟨rfl, rfl⟩
set_option maxRecDepth 100000 in
set_option maxHeartbeats 2000000 in
theorem rotl6_any (x : Int) (w : World) : Calls Tryz.prog 175 #[.int .u32 x, .int .i64 (-6)] w (Same (.int .u32 (bits .or .u32 (x * 67108864 % 4294967296) (x / 64))) w) := by
 have he : bits .and .u64 (IntKind.u64.wrap (-6)) 31 = 26 := by kernel_rfl
 go_enter Tryz.func175, Tryz.ntmps175
 go_wp2_with fail
 go_ret
 exact ⟨rfl, rfl⟩
set_option maxRecDepth 100000 in
set_option maxHeartbeats 2000000 in
theorem rotr6_any (x : Int) (w : World) : Calls Tryz.prog 163 #[.int .u32 x, .int .i64 6] w (fun e w' => e = .returned (.int .u32 (bits .or .u32 (x * 67108864 % 4294967296) (x / 64))) ∧ w' = w) := by
 have HC := hD (rotl6_any x w)
 go_enter Tryz.func163, Tryz.ntmps163
 go_wp2_with fail
 refine HC.out.mono ?_
 rintro e w2 ⟨rfl, rfl⟩
 go_wp2_with fail
 go_ret
 exact ⟨rfl, rfl⟩
set_option maxRecDepth 100000 in
set_option maxHeartbeats 2000000 in
theorem rotl7_any (x : Int) (w : World) : Calls Tryz.prog 175 #[.int .u32 x, .int .i64 (-7)] w (Same (.int .u32 (bits .or .u32 (x * 33554432 % 4294967296) (x / 128))) w) := by
 have he : bits .and .u64 (IntKind.u64.wrap (-7)) 31 = 25 := by kernel_rfl
 go_enter Tryz.func175, Tryz.ntmps175
 go_wp2_with fail
 go_ret
 exact ⟨rfl, rfl⟩
set_option maxRecDepth 100000 in
set_option maxHeartbeats 2000000 in
theorem rotr7_any (x : Int) (w : World) : Calls Tryz.prog 163 #[.int .u32 x, .int .i64 7] w (fun e w' => e = .returned (.int .u32 (bits .or .u32 (x * 33554432 % 4294967296) (x / 128))) ∧ w' = w) := by
 have HC := hD (rotl7_any x w)
 go_enter Tryz.func163, Tryz.ntmps163
 go_wp2_with fail
 refine HC.out.mono ?_
 rintro e w2 ⟨rfl, rfl⟩
 go_wp2_with fail
 go_ret
 exact ⟨rfl, rfl⟩
set_option maxRecDepth 100000 in
set_option maxHeartbeats 2000000 in
theorem rotl11_any (x : Int) (w : World) : Calls Tryz.prog 175 #[.int .u32 x, .int .i64 (-11)] w (Same (.int .u32 (bits .or .u32 (x * 2097152 % 4294967296) (x / 2048))) w) := by
 have he : bits .and .u64 (IntKind.u64.wrap (-11)) 31 = 21 := by kernel_rfl
 go_enter Tryz.func175, Tryz.ntmps175
 go_wp2_with fail
 go_ret
 exact ⟨rfl, rfl⟩
set_option maxRecDepth 100000 in
set_option maxHeartbeats 2000000 in
theorem rotr11_any (x : Int) (w : World) : Calls Tryz.prog 163 #[.int .u32 x, .int .i64 11] w (fun e w' => e = .returned (.int .u32 (bits .or .u32 (x * 2097152 % 4294967296) (x / 2048))) ∧ w' = w) := by
 have HC := hD (rotl11_any x w)
 go_enter Tryz.func163, Tryz.ntmps163
 go_wp2_with fail
 refine HC.out.mono ?_
 rintro e w2 ⟨rfl, rfl⟩
 go_wp2_with fail
 go_ret
 exact ⟨rfl, rfl⟩
set_option maxRecDepth 100000 in
set_option maxHeartbeats 2000000 in
theorem rotl13_any (x : Int) (w : World) : Calls Tryz.prog 175 #[.int .u32 x, .int .i64 (-13)] w (Same (.int .u32 (bits .or .u32 (x * 524288 % 4294967296) (x / 8192))) w) := by
 have he : bits .and .u64 (IntKind.u64.wrap (-13)) 31 = 19 := by kernel_rfl
 go_enter Tryz.func175, Tryz.ntmps175
 go_wp2_with fail
 go_ret
 exact ⟨rfl, rfl⟩
set_option maxRecDepth 100000 in
set_option maxHeartbeats 2000000 in
theorem rotr13_any (x : Int) (w : World) : Calls Tryz.prog 163 #[.int .u32 x, .int .i64 13] w (fun e w' => e = .returned (.int .u32 (bits .or .u32 (x * 524288 % 4294967296) (x / 8192))) ∧ w' = w) := by
 have HC := hD (rotl13_any x w)
 go_enter Tryz.func163, Tryz.ntmps163
 go_wp2_with fail
 refine HC.out.mono ?_
 rintro e w2 ⟨rfl, rfl⟩
 go_wp2_with fail
 go_ret
 exact ⟨rfl, rfl⟩
set_option maxRecDepth 100000 in
set_option maxHeartbeats 2000000 in
theorem rotl17_any (x : Int) (w : World) : Calls Tryz.prog 175 #[.int .u32 x, .int .i64 (-17)] w (Same (.int .u32 (bits .or .u32 (x * 32768 % 4294967296) (x / 131072))) w) := by
 have he : bits .and .u64 (IntKind.u64.wrap (-17)) 31 = 15 := by kernel_rfl
 go_enter Tryz.func175, Tryz.ntmps175
 go_wp2_with fail
 go_ret
 exact ⟨rfl, rfl⟩
set_option maxRecDepth 100000 in
set_option maxHeartbeats 2000000 in
theorem rotr17_any (x : Int) (w : World) : Calls Tryz.prog 163 #[.int .u32 x, .int .i64 17] w (fun e w' => e = .returned (.int .u32 (bits .or .u32 (x * 32768 % 4294967296) (x / 131072))) ∧ w' = w) := by
 have HC := hD (rotl17_any x w)
 go_enter Tryz.func163, Tryz.ntmps163
 go_wp2_with fail
 refine HC.out.mono ?_
 rintro e w2 ⟨rfl, rfl⟩
 go_wp2_with fail
 go_ret
 exact ⟨rfl, rfl⟩
set_option maxRecDepth 100000 in
set_option maxHeartbeats 2000000 in
theorem rotl18_any (x : Int) (w : World) : Calls Tryz.prog 175 #[.int .u32 x, .int .i64 (-18)] w (Same (.int .u32 (bits .or .u32 (x * 16384 % 4294967296) (x / 262144))) w) := by
 have he : bits .and .u64 (IntKind.u64.wrap (-18)) 31 = 14 := by kernel_rfl
 go_enter Tryz.func175, Tryz.ntmps175
 go_wp2_with fail
 go_ret
 exact ⟨rfl, rfl⟩
set_option maxRecDepth 100000 in
set_option maxHeartbeats 2000000 in
theorem rotr18_any (x : Int) (w : World) : Calls Tryz.prog 163 #[.int .u32 x, .int .i64 18] w (fun e w' => e = .returned (.int .u32 (bits .or .u32 (x * 16384 % 4294967296) (x / 262144))) ∧ w' = w) := by
 have HC := hD (rotl18_any x w)
 go_enter Tryz.func163, Tryz.ntmps163
 go_wp2_with fail
 refine HC.out.mono ?_
 rintro e w2 ⟨rfl, rfl⟩
 go_wp2_with fail
 go_ret
 exact ⟨rfl, rfl⟩
set_option maxRecDepth 100000 in
set_option maxHeartbeats 2000000 in
theorem rotl19_any (x : Int) (w : World) : Calls Tryz.prog 175 #[.int .u32 x, .int .i64 (-19)] w (Same (.int .u32 (bits .or .u32 (x * 8192 % 4294967296) (x / 524288))) w) := by
 have he : bits .and .u64 (IntKind.u64.wrap (-19)) 31 = 13 := by kernel_rfl
 go_enter Tryz.func175, Tryz.ntmps175
 go_wp2_with fail
 go_ret
 exact ⟨rfl, rfl⟩
set_option maxRecDepth 100000 in
set_option maxHeartbeats 2000000 in
theorem rotr19_any (x : Int) (w : World) : Calls Tryz.prog 163 #[.int .u32 x, .int .i64 19] w (fun e w' => e = .returned (.int .u32 (bits .or .u32 (x * 8192 % 4294967296) (x / 524288))) ∧ w' = w) := by
 have HC := hD (rotl19_any x w)
 go_enter Tryz.func163, Tryz.ntmps163
 go_wp2_with fail
 refine HC.out.mono ?_
 rintro e w2 ⟨rfl, rfl⟩
 go_wp2_with fail
 go_ret
 exact ⟨rfl, rfl⟩
set_option maxRecDepth 100000 in
set_option maxHeartbeats 2000000 in
theorem rotl22_any (x : Int) (w : World) : Calls Tryz.prog 175 #[.int .u32 x, .int .i64 (-22)] w (Same (.int .u32 (bits .or .u32 (x * 1024 % 4294967296) (x / 4194304))) w) := by
 have he : bits .and .u64 (IntKind.u64.wrap (-22)) 31 = 10 := by kernel_rfl
 go_enter Tryz.func175, Tryz.ntmps175
 go_wp2_with fail
 go_ret
 exact ⟨rfl, rfl⟩
set_option maxRecDepth 100000 in
set_option maxHeartbeats 2000000 in
theorem rotr22_any (x : Int) (w : World) : Calls Tryz.prog 163 #[.int .u32 x, .int .i64 22] w (fun e w' => e = .returned (.int .u32 (bits .or .u32 (x * 1024 % 4294967296) (x / 4194304))) ∧ w' = w) := by
 have HC := hD (rotl22_any x w)
 go_enter Tryz.func163, Tryz.ntmps163
 go_wp2_with fail
 refine HC.out.mono ?_
 rintro e w2 ⟨rfl, rfl⟩
 go_wp2_with fail
 go_ret
 exact ⟨rfl, rfl⟩
set_option maxRecDepth 100000 in
set_option maxHeartbeats 2000000 in
theorem rotl25_any (x : Int) (w : World) : Calls Tryz.prog 175 #[.int .u32 x, .int .i64 (-25)] w (Same (.int .u32 (bits .or .u32 (x * 128 % 4294967296) (x / 33554432))) w) := by
 have he : bits .and .u64 (IntKind.u64.wrap (-25)) 31 = 7 := by kernel_rfl
 go_enter Tryz.func175, Tryz.ntmps175
 go_wp2_with fail
 go_ret
 exact ⟨rfl, rfl⟩
set_option maxRecDepth 100000 in
set_option maxHeartbeats 2000000 in
theorem rotr25_any (x : Int) (w : World) : Calls Tryz.prog 163 #[.int .u32 x, .int .i64 25] w (fun e w' => e = .returned (.int .u32 (bits .or .u32 (x * 128 % 4294967296) (x / 33554432))) ∧ w' = w) := by
 have HC := hD (rotl25_any x w)
 go_enter Tryz.func163, Tryz.ntmps163
 go_wp2_with fail
 refine HC.out.mono ?_
 rintro e w2 ⟨rfl, rfl⟩
 go_wp2_with fail
 go_ret
 exact ⟨rfl, rfl⟩
theorem rot_some (n : Int) (hn : n = 2 ∨ n = 6 ∨ n = 7 ∨ n = 11 ∨ n = 13 ∨ n = 17 ∨ n = 18 ∨ n = 19 ∨ n = 22 ∨ n = 25) (x : Int) : ∃ v : Int, ∀ w, Calls Tryz.prog 163 #[.int .u32 x, .int .i64 n] w (fun e w' => e = .returned (.int .u32 v) ∧ w' = w) := by
 rcases hn with rfl | rfl | rfl | rfl | rfl | rfl | rfl | rfl | rfl | rfl
 · exact ⟨_, rotr2_any x⟩
 · exact ⟨_, rotr6_any x⟩
 · exact ⟨_, rotr7_any x⟩
 · exact ⟨_, rotr11_any x⟩
 · exact ⟨_, rotr13_any x⟩
 · exact ⟨_, rotr17_any x⟩
 · exact ⟨_, rotr18_any x⟩
 · exact ⟨_, rotr19_any x⟩
 · exact ⟨_, rotr22_any x⟩
 · exact ⟨_, rotr25_any x⟩
structure Ar (w : World) (b n : Nat) : Prop where
 lt : b < w.heap.size
 cells : ∀ j, j < n → ∃ v : Int, w.cell? ⟨b, j, none⟩ = some (.int .u32 v)
 free : ∀ j, j < n → w.frozen? ⟨b, j, none⟩ = false
theorem Ar.vz {w : World} {b : Nat} {cs : List Value} (h : Vz w b cs) (n : Nat) (hn : n ≤ cs.length) (hc : ∀ j, j < n → ∃ v : Int, cs[j]? = some (.int .u32 v)) : Ar w b n :=
 ⟨h.lt, fun j hj => by obtain ⟨v, hv⟩ := hc j hj; exact ⟨v, h.cells j _ hv⟩, fun j hj => h.free j (by omega)⟩
theorem Ar.below {w w' : World} {b n : Nat} (h : Ar w b n) (hb : Below w.heap.size w w') : Ar w' b n :=
 ⟨Nat.lt_of_lt_of_le h.lt hb.size, fun j hj => by obtain ⟨v, hv⟩ := h.cells j hj; exact ⟨v, (hb.cell (p := ⟨b, j, none⟩) h.lt).trans hv⟩, fun j hj => (hb.frozen (p := ⟨b, j, none⟩) h.lt).trans (h.free j hj)⟩
theorem Ar.grown {w w' : World} {b n : Nat} {g : Option Nat} (h : Ar w b n) (hg : w.grownBy w' g) (hne : g ≠ some b) : Ar w' b n :=
 ⟨Nat.lt_of_lt_of_le h.lt hg.size, fun j hj => by obtain ⟨v, hv⟩ := h.cells j hj; exact ⟨v, (hg.cell_far ⟨b, j, none⟩ h.lt (by simpa using fun e => hne e.symm)).trans hv⟩, fun j hj => (hg.frozen_far ⟨b, j, none⟩ h.lt (by simpa using fun e => hne e.symm)).trans (h.free j hj)⟩
theorem Ar.set {w : World} {b n : Nat} (h : Ar w b n) (i : Nat) (v : Int) : Ar (w.setCell ⟨b, i, none⟩ (.int .u32 v)) b n :=
 ⟨by simpa using h.lt, fun j hj => by
  obtain ⟨u, hu⟩ := h.cells j hj
  by_cases e : i = j
  · subst e; exact ⟨v, World.cell?_setCell_same _ _ _ hu⟩
  · exact ⟨u, (World.cell?_setCell_other _ _ _ _ (fun e' => e (by injection e'))).trans hu⟩, fun j hj => (frz_set _ _ _ _).trans (h.free j hj)⟩
open Go.RowKit
theorem Vz.range {w : World} {b : Nat} {cs : List Value} (h : Vz w b cs) : w.rangeAt b 0 cs := fun j v hv => by rw [Nat.zero_add]; exact h.cells j v hv
theorem Vz.there {w : World} {b : Nat} {cs : List Value} (h : Vz w b cs) {n : Nat} (hn : n = cs.length) : w.there b 0 n := fun j hj => by
 subst hn
 rw [Nat.zero_add]
 refine ⟨by rw [h.cells j _ (List.getElem?_eq_getElem hj)]; rfl, h.free j hj⟩
theorem grown_setsA (w : World) (b : Nat) (vs : List Value) (o : Nat) : w.grownBy (w.setCells b o vs) (some b) := by
 induction vs generalizing o w with
 | nil => exact grown_below (Below.refl _ _) _
 | cons v r ih => exact (grown_set w ⟨b, o, none⟩ v).trans (ih _ _)
theorem Vz.sets {w : World} {b : Nat} {cs : List Value} (h : Vz w b cs) (cs' : List Value) (hl : cs'.length = cs.length) : Vz (w.setCells b 0 cs') b cs' where
 lt := Nat.lt_of_lt_of_le h.lt (grown_setsA w b cs' 0).size
 cells j v hv := by
  have := World.rangeAt_setCells_same w b 0 cs' (h.there hl) j v hv
  rwa [Nat.zero_add] at this
 free j hj := by rw [World.frozen?_setCells]; exact h.free j (by omega)
theorem results_midA {P : Program} {fn : Func} {p : Tmp} {ty : TypeId} (h : fn.results = #[.cell p ty]) (tmps : Array Value) (w : World) (b : Nat) (cs : List Value) (d : TypeDesc)
    (hp : tmps.getD p undef = .pointer (some ⟨b, 0, none⟩)) (hc : w.rangeAt b 0 cs) (hu : P.underlying ty = some d) (hd : d.isRow = true) (hi : (P.info? ty).map (·.size) = some cs.length) :
    (results fn tmps).run P w = .ok (.agg cs.toArray) w := by
 have hp' : tmps[p]?.getD undef = .pointer (some ⟨b, 0, none⟩) := by simpa using hp
 simp [results, h, hp', asAddr, run_loadVar_mid w b 0 ty cs d hc hu hd hi]
def RetWords (n : Nat) (w : World) (e : Ending) (w' : World) : Prop := ∃ K : List Value, e = .returned (.agg K.toArray) ∧ K.length = n ∧ (∀ j, j < n → ∃ v : Int, K[j]? = some (.int .u32 v)) ∧ Below w.heap.size w w'
def zeroW (n : Nat) : List Value := List.replicate n (.int .u32 0)
def wordC (l : List Nat) : List Value := l.map fun (n : Nat) => .int .u32 (n : Int)
theorem wordC_at (l : List Nat) (j : Nat) (h : j < l.length) : ∃ v : Int, (wordC l)[j]? = some (.int .u32 v) := ⟨(l[j] : Int), by simp [wordC, h]⟩
theorem wordC_one (l : List Nat) : (wordC l).toArray.all (·.oneCell') = true := all_oneCell_toArray (fun v hv => by
 simp only [wordC, List.mem_map] at hv
 obtain ⟨n, _, rfl⟩ := hv
 rfl)
def constL : List Nat := [1116352408, 1899447441, 3049323471, 3921009573, 961987163, 1508970993, 2453635748, 2870763221, 3624381080, 310598401, 607225278, 1426881987, 1925078388, 2162078206, 2614888103, 3248222580, 3835390401, 4022224774, 264347078, 604807628, 770255983, 1249150122, 1555081692, 1996064986, 2554220882, 2821834349, 2952996808, 3210313671, 3336571891, 3584528711, 113926993, 338241895, 666307205, 773529912, 1294757372, 1396182291, 1695183700, 1986661051, 2177026350, 2456956037, 2730485921, 2820302411, 3259730800, 3345764771, 3516065817, 3600352804, 4094571909, 275423344, 430227734, 506948616, 659060556, 883997877, 958139571, 1322822218, 1537002063, 1747873779, 1955562222, 2024104815, 2227730452, 2361852424, 2428436474, 2756734187, 3204031479, 3329325298]
def startL : List Nat := [1779033703, 3144134277, 1013904242, 2773480762, 1359893119, 2600822924, 528734635, 1541459225]
theorem info64 : (Tryz.prog.info? 233).map (·.size) = some 64 := by kernel_rfl
theorem info8 : (Tryz.prog.info? 213).map (·.size) = some 8 := by kernel_rfl
set_option maxRecDepth 100000 in
set_option maxHeartbeats 2000000 in
theorem constants_any (w : World) : Calls Tryz.prog 164 #[] w (RetWords 64 w) := by
 have HV := hD (Vz.new w (zeroW 64) 233)
 have HB := hD (below_new w (.cells (zeroW 64).toArray 233))
 go_enter Tryz.func164, Tryz.ntmps164
 go_wp2_with (refine wpList_store_mid rfl 233 _ _ rfl w.heap.size 0 (wordC constL).toArray rfl rfl (HV.out.there rfl) info64 (wordC_one constL) ?_)
 refine bodyPost_ret (v := .agg (wordC constL).toArray) (results_midA Tryz.results164 _ _ w.heap.size (wordC constL) _ rfl (HV.out.sets (wordC constL) rfl).range Tryz.underlying233 rfl info64) rfl ⟨wordC constL, rfl, rfl, fun j hj => wordC_at constL j hj, ?_⟩
 exact below_grown HB.out (by simp) (grown_setsA _ w.heap.size (wordC constL) 0) (fun b e => by simp only [Option.some.injEq] at e; omega)
set_option maxRecDepth 100000 in
set_option maxHeartbeats 2000000 in
theorem start_any (w : World) : Calls Tryz.prog 145 #[] w (RetWords 8 w) := by
 have HV := hD (Vz.new w (zeroW 8) 213)
 have HB := hD (below_new w (.cells (zeroW 8).toArray 213))
 go_enter Tryz.func145, Tryz.ntmps145
 go_wp2_with (refine wpList_store_mid rfl 213 _ _ rfl w.heap.size 0 (wordC startL).toArray rfl rfl (HV.out.there rfl) info8 (wordC_one startL) ?_)
 refine bodyPost_ret (v := .agg (wordC startL).toArray) (results_midA Tryz.results145 _ _ w.heap.size (wordC startL) _ rfl (HV.out.sets (wordC startL) rfl).range Tryz.underlying213 rfl info8) rfl ⟨wordC startL, rfl, rfl, fun j hj => wordC_at startL j hj, ?_⟩
 exact below_grown HB.out (by simp) (grown_setsA _ w.heap.size (wordC startL) 0) (fun b e => by simp only [Option.some.injEq] at e; omega)
end Go.Proofs.YtikpcebhcnjkhaaGreatDoor
