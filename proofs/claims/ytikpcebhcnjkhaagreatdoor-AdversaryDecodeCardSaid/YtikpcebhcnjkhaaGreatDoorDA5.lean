/- The hash: New, Write. -/
import Derived.Deep.Cut
import Derived.Deep.CutRange
import Derived.ArgAppend
import Derived.Lib.ConvBytes
import Derived.Laws.BytesArg
import Derived.Deep.Onto
import Derived.Deep.AppendLies
import Derived.Deep.RegionLaw
import Derived.Test.YtikpcebhcnjkhaaGreatDoorDPl
import Derived.Test.YtikpcebhcnjkhaaGreatDoorDAdvT
import Derived.Test.YtikpcebhcnjkhaaGreatDoorDWa
namespace Go.Proofs.YtikpcebhcnjkhaaGreatDoor
open Go.RowKit
structure Hs (w : World) (g : Nat) (r : ByteArray) (n : Int) : Prop where
 words : Ar w g 8
 rest : w.cell? ⟨g, 8, none⟩ = some (.string r)
 len : w.cell? ⟨g, 9, none⟩ = some (.int .u64 n)
 f8 : w.frozen? ⟨g, 8, none⟩ = false
 f9 : w.frozen? ⟨g, 9, none⟩ = false
theorem Hs.below {w w' : World} {g : Nat} {r : ByteArray} {n : Int} (h : Hs w g r n) (hb : Below w.heap.size w w') : Hs w' g r n :=
 ⟨h.words.below hb, (hb.cell (p := ⟨g, 8, none⟩) h.words.lt).trans h.rest, (hb.cell (p := ⟨g, 9, none⟩) h.words.lt).trans h.len, (hb.frozen (p := ⟨g, 8, none⟩) h.words.lt).trans h.f8, (hb.frozen (p := ⟨g, 9, none⟩) h.words.lt).trans h.f9⟩
theorem Hs.add {w w' : World} {g : Nat} {r : ByteArray} {n : Int} {e : Ending} (h : Hs w g r n) (hb : RetAdd g w e w') : Hs w' g r n :=
 ⟨hb.2.2.1, (hb.2.2.2 8 (by omega)).1.trans h.rest, (hb.2.2.2 9 (by omega)).1.trans h.len, (hb.2.2.2 8 (by omega)).2.trans h.f8, (hb.2.2.2 9 (by omega)).2.trans h.f9⟩
theorem Ar.far {w : World} {b n : Nat} (h : Ar w b n) {i : Nat} (hi : n ≤ i) (v : Value) : Ar (w.setCell ⟨b, i, none⟩ v) b n :=
 ⟨by simpa using h.lt, fun j hj => by obtain ⟨u, hu⟩ := h.cells j hj; exact ⟨u, (World.cell?_setCell_other _ _ _ _ (off_ne b (by omega))).trans hu⟩, fun j hj => (frz_set _ _ _ _).trans (h.free j hj)⟩
theorem Hs.rest' {w : World} {g : Nat} {r : ByteArray} {n : Int} (h : Hs w g r n) (r' : ByteArray) : Hs (w.setCell ⟨g, 8, none⟩ (.string r')) g r' n :=
 ⟨h.words.far (Nat.le_refl _) _, World.cell?_setCell_same _ _ _ h.rest, (World.cell?_setCell_other _ _ _ _ (off_ne g (by omega))).trans h.len, (frz_set _ _ _ _).trans h.f8, (frz_set _ _ _ _).trans h.f9⟩
theorem Hs.len' {w : World} {g : Nat} {r : ByteArray} {n : Int} (h : Hs w g r n) (n' : Int) : Hs (w.setCell ⟨g, 9, none⟩ (.int .u64 n')) g r n' :=
 ⟨h.words.far (by omega) _, (World.cell?_setCell_other _ _ _ _ (off_ne g (by omega))).trans h.rest, World.cell?_setCell_same _ _ _ h.len, (frz_set _ _ _ _).trans h.f8, (frz_set _ _ _ _).trans h.f9⟩
theorem Hs.added {w w' : World} {g : Nat} {r : ByteArray} {n : Int} (h : Hs w g r n) (hb : w.grownBy w' (some g) ∧ Ar w' g 8 ∧ ∀ j, 8 ≤ j → w'.cell? ⟨g, j, none⟩ = w.cell? ⟨g, j, none⟩ ∧ w'.frozen? ⟨g, j, none⟩ = w.frozen? ⟨g, j, none⟩) : Hs w' g r n :=
 h.add (e := .returned (.tuple #[])) ⟨rfl, hb⟩
theorem ext_pre (r : ByteArray) : (r.extract 0 64).size = min 64 r.size := by simp
def lenAt (w : World) (g : Nat) : Nat := match w.cell? ⟨g, 8, none⟩ with
 | some (.string r) => r.size
 | _ => 0
theorem len_at {w : World} {g : Nat} {r : ByteArray} (h : w.cell? ⟨g, 8, none⟩ = some (.string r)) : lenAt w g = r.size := by unfold lenAt; rw [h]
theorem len_set {w : World} {g : Nat} {u : Value} (h : w.cell? ⟨g, 8, none⟩ = some u) (r : ByteArray) : lenAt (w.setCell ⟨g, 8, none⟩ (.string r)) g = r.size := len_at (World.cell?_setCell_same _ _ _ h)
theorem size_nil (s : ByteArray) (h : s.size ≤ 1048576) : (ByteArray.mk #[] ++ s).size ≤ 1048576 := by
 have h0 : (ByteArray.mk #[]).size = 0 := rfl
 rw [ByteArray.size_append, h0]
 omega
def RetNew (w : World) (e : Ending) (w' : World) : Prop := ∃ g, e = .returned (.pointer (some ⟨g, 0, none⟩)) ∧ w.heap.size ≤ g ∧ Hs w' g ⟨#[]⟩ 0 ∧ Below w.heap.size w w'
theorem words8 (K : List Value) (hl : K.length = 8) (hk : ∀ j, j < 8 → ∃ v : Int, K[j]? = some (.int .u32 v)) : ∃ k0 k1 k2 k3 k4 k5 k6 k7 : Int, K = [.int .u32 k0, .int .u32 k1, .int .u32 k2, .int .u32 k3, .int .u32 k4, .int .u32 k5, .int .u32 k6, .int .u32 k7] := by
 match K, hl with
 | [a0, a1, a2, a3, a4, a5, a6, a7], _ =>
  obtain ⟨k0, h0⟩ := hk 0 (by omega)
  obtain ⟨k1, h1⟩ := hk 1 (by omega)
  obtain ⟨k2, h2⟩ := hk 2 (by omega)
  obtain ⟨k3, h3⟩ := hk 3 (by omega)
  obtain ⟨k4, h4⟩ := hk 4 (by omega)
  obtain ⟨k5, h5⟩ := hk 5 (by omega)
  obtain ⟨k6, h6⟩ := hk 6 (by omega)
  obtain ⟨k7, h7⟩ := hk 7 (by omega)
  simp at h0 h1 h2 h3 h4 h5 h6 h7
  subst h0 h1 h2 h3 h4 h5 h6 h7
  exact ⟨k0, k1, k2, k3, k4, k5, k6, k7, rfl⟩
set_option maxRecDepth 100000 in
set_option maxHeartbeats 2000000 in
theorem new_any (w : World) : Calls Tryz.prog 115 #[] w (RetNew w) := by
 have HS := hD (start_any w)
 go_enter Tryz.func115, Tryz.ntmps115
 go_wp2_with fail
 refine HS.out.mono ?_
 rintro e w2 ⟨K, rfl, hl, hk, hb⟩
 obtain ⟨k0, k1, k2, k3, k4, k5, k6, k7, rfl⟩ := words8 K hl hk
 have HB := hD hb
 clear hl hk hb
 have HV := hD (Vz.new w2 [.int .u32 k0, .int .u32 k1, .int .u32 k2, .int .u32 k3, .int .u32 k4, .int .u32 k5, .int .u32 k6, .int .u32 k7, .string ⟨#[]⟩, .int .u64 0] 216)
 go_wp2_with fail
 go_ret
 exact ⟨_, rfl, HB.out.size, ⟨Ar.vz HV.out 8 (by simp) (fun j hj => by
  obtain ⟨v, hv⟩ := eight_at k0 k1 k2 k3 k4 k5 k6 k7 j hj
  refine ⟨v, ?_⟩
  rw [← hv]
  match j, hj with
  | 0, _ => rfl
  | 1, _ => rfl
  | 2, _ => rfl
  | 3, _ => rfl
  | 4, _ => rfl
  | 5, _ => rfl
  | 6, _ => rfl
  | 7, _ => rfl), HV.out.cells 8 _ rfl, HV.out.cells 9 _ rfl, HV.out.free 8 (by simp), HV.out.free 9 (by simp)⟩, bon HB.out (below_new w2 _)⟩
def RetW (g : Nat) (w : World) (e : Ending) (w' : World) : Prop := e = .returned (.tuple #[]) ∧ w.grownBy w' (some g) ∧ ∃ r n, r.size < 64 ∧ Hs w' g r n
set_option maxRecDepth 100000 in
set_option maxHeartbeats 2000000 in
theorem write_any (g : Nat) (s : ByteArray) (w : World) (h : Hs w g ⟨#[]⟩ 0) (hs : s.size ≤ 1048576) : Calls Tryz.prog 116 #[.pointer (some ⟨g, 0, none⟩), .string s] w (RetW g w) := by
 have H := hD h
 clear h
 have c8 := H.out.rest
 have c9 := H.out.len
 have f8 := H.out.f8
 have f9 := H.out.f9
 have lg := H.out.words.lt
 go_enter Tryz.func116, Tryz.ntmps116
 go_wp2_with fail
 go_loopw [] (fun wr => ∃ (r : ByteArray) (n : Int), Hs wr g r n ∧ w.grownBy wr (some g) ∧ r.size ≤ 1048576) (fun wr => lenAt wr g)
 case atStart => exact ⟨_, _, (H.out.len' _).rest' _, (grown_set w ⟨g, 9, none⟩ _).trans (grown_set _ ⟨g, 8, none⟩ _), size_nil s hs⟩
 case round =>
  obtain ⟨r, n, hh, hg, hr⟩ := hrel
  have HX := hD hh
  have HG := hD hg
  clear hh hg c8 c9 f8 f9 lg
  have HLn : Hid (lenAt wr g = r.size) := hD (len_at HX.out.rest)
  have c8 := HX.out.rest
  have lg := HX.out.words.lt
  by_cases hlt : 64 ≤ r.size
  · have i1 : (64 : Int) ≤ (r.size : Int) := by omega
    have e0 : (r.extract 0 64).size = 64 := by rw [ext_pre]; omega
    have HE := hD e0
    clear e0
    go_wp2_with fail
    clear c8 lg
    refine wp_region_noPanic ?_
    have HX : Hid (Hs wr.drew g r n) := hD (HX.out.below (Below.refl _ _).drew)
    have HG : Hid (w.grownBy wr.drew (some g)) := hD (HG.out.trans (grown_below (Below.refl _ _).drew _))
    generalize hv : wr.drew = v0 at HX HG
    have hS0 : World.cell? v0 ⟨g, 8, none⟩ = some (.string r) := HX.out.rest
    refine wp_region_held_drew (S := fun W => World.cell? W ⟨g, 8, none⟩ = some (.string r)) (by kernel_rfl) (by rw [hv]; exact hS0) (fun hHeld => ?_)
    rw [hv] at hHeld ⊢
    clear hv
    refine takes [0,1,2,3,4,5,6,7] ?_
    refine tkr 8 rfl (fun K hK => ?_)
    go_simp
    go_at_call 146
    refine (add_any g _ _ HX.out.words (by rw [ext_pre]; omega) (by rw [ext_pre]; omega)).mono ?_
    rintro e v1 ⟨rfl, hs⟩
    have HX := hD (HX.out.added hs)
    have HG := hD (HG.out.trans hs.1)
    clear hs
    go_wp2_with fail
    have hS1 : World.cell? v1 ⟨g, 8, none⟩ = some (.string r) := HX.out.rest
    refine hK.out _ _ hS1 (fun hHeld => ?_)
    clear hK K
    try simp only [Act.put,qk1,qk2,qk3,qk4,qk5,qk6]
    refine wpAnyH_done (by kernel_rfl) ?_ _
    refine NoPanic.normal ?_
    have c8 := HX.out.rest
    have f8 := HX.out.f8
    have lg := HX.out.words.lt
    go_wp2_with fail
    go_roundw
    case rel => exact ⟨_, n, HX.out.rest' _, HG.out.trans (grown_set _ _ _), by simp; omega⟩
    case measure =>
     rw [HLn.out]
     refine Nat.lt_of_le_of_lt (Nat.le_of_eq (len_set HX.out.rest _)) ?_
     simp; omega
  · have j1 : (r.size : Int) < 64 := by omega
    go_wp2_with fail
    refine bodyPost_ret (v := .tuple #[]) (by simp [results, Tryz.results116, go_sem]) rfl ⟨rfl, HG.out, r, n, by omega, HX.out⟩
open Go.RowKit
def By (w : World) (base g n cap : Nat) : Prop := base ≤ g ∧ g < w.heap.size ∧ n ≤ cap ∧ (∀ j, j < n → ∃ v : Nat, v < 256 ∧ w.cell? ⟨g, j, none⟩ = some (.int .u8 (v : Int))) ∧ ∀ j, j < cap → (w.cell? ⟨g, j, none⟩).isSome = true ∧ w.frozen? ⟨g, j, none⟩ = false
theorem By.below {w w' : World} {base g n cap : Nat} (h : By w base g n cap) (hb : Below w.heap.size w w') : By w' base g n cap :=
 ⟨h.1, Nat.lt_of_lt_of_le h.2.1 hb.size, h.2.2.1, fun j hj => by obtain ⟨v, hv, hc⟩ := h.2.2.2.1 j hj; exact ⟨v, hv, (hb.cell (p := ⟨g, j, none⟩) h.2.1).trans hc⟩, fun j hj => ⟨by rw [hb.cell (p := ⟨g, j, none⟩) h.2.1]; exact (h.2.2.2.2 j hj).1, (hb.frozen (p := ⟨g, j, none⟩) h.2.1).trans (h.2.2.2.2 j hj).2⟩⟩
theorem By.put {w : World} {base g n cap : Nat} (h : By w base g n cap) (hn : n < cap) (x : Nat) (hx : x < 256) : By (w.setCell ⟨g, n, none⟩ (.int .u8 (x : Int))) base g (n + 1) cap := by
 obtain ⟨h1, h2, h3, h4, h5⟩ := h
 obtain ⟨u, hu⟩ := Option.isSome_iff_exists.1 (h5 n hn).1
 refine ⟨h1, by simpa using h2, hn, fun j hj => ?_, fun j hj => ⟨?_, (frz_set _ _ _ _).trans (h5 j hj).2⟩⟩
 · by_cases e : n = j
   · subst e; exact ⟨x, hx, World.cell?_setCell_same _ _ _ hu⟩
   · obtain ⟨v, hv, hc⟩ := h4 j (by omega); exact ⟨v, hv, (World.cell?_setCell_other _ _ _ _ (off_ne g e)).trans hc⟩
 · by_cases e : n = j
   · subst e; rw [World.cell?_setCell_same _ _ _ hu]; rfl
   · rw [World.cell?_setCell_other _ _ _ _ (off_ne g e)]; exact (h5 j hj).1
theorem By.own {w : World} {base g n cap : Nat} {xs : List Value} {e : TypeId} (h : w.ownsRow base e 1 (.slice (some ⟨g, 0, none⟩) n cap) n xs) (hx : ∀ j, j < n → ∃ v : Nat, v < 256 ∧ xs[j]? = some (.int .u8 (v : Int))) : By w base g n cap := by
 rcases h.2 with ⟨h', _⟩ | ⟨g', cap', cur, h', hb, hg, hnc, hcm, hcs, htake⟩
 · simp at h'
 · simp only [Value.slice.injEq, Option.some.injEq, Addr.mk.injEq, and_true, true_and] at h'
   obtain ⟨rfl, rfl⟩ := h'
   refine ⟨hb, (h.lt g rfl).2, hnc, fun j hj => ?_, fun j hj => ⟨?_, h.frozenAt j⟩⟩
   · obtain ⟨v, hv, hc⟩ := hx j hj; exact ⟨v, hv, (h.cellAt j (by omega)).trans hc⟩
   · simp only [World.cell?]
     rw [hg]
     have hj' : j < cur.size := by rw [hcs]; omega
     simp [hj']
theorem By.conv (w : World) (e : TypeId) (s : ByteArray) : By (Lib.bytesWorld w e s) w.heap.size w.heap.size s.size (grownCap w s.size 0 e) := by
 have hge := grownCap_ge w s.size 0 e
 have hsz : (Lib.bytesCells w e s).size = grownCap w s.size 0 e := by
  simp [Lib.bytesCells]
  show s.size + (grownCap w s.size 0 e - s.size) = _
  omega
 have hb := Lib.bytesWorld_at_new w e s
 refine ⟨Nat.le_refl _, by rw [Lib.bytesWorld_size]; omega, hge, fun j hj => ?_, fun j hj => ?_⟩
 · exact ⟨(s.data.toList.getD j 0).toNat, byte_lt _, Lib.bytesWorld_cell w e s j hj⟩
 · simp only [World.cell?, World.frozen?]
   rw [hb]
   have hj' : j < (Lib.bytesCells w e s).size := by omega
   refine ⟨by simp [hj'], ?_⟩
   simp
   omega
theorem conv_some {w : World} {g o m cap : Nat} (h : ∀ j, j < m → ∃ v : Nat, v < 256 ∧ w.cell? ⟨g, o + j, none⟩ = some (.int .u8 (v : Int))) : ∃ s : ByteArray, s.size = m ∧ (convert 53 9 (.slice (some ⟨g, o, none⟩) m cap)).run Tryz.prog w = .ok (.string s) w := by
 have hx : ∀ k, k ≤ m → ∃ xs : List Int, xs.length = k ∧ ∀ i, i < k → w.cell? ⟨g, o + i, none⟩ = some (.int .u8 (xs.getD i 0)) := by
  intro k
  induction k with
  | zero => intro _; exact ⟨[], rfl, fun i hi => absurd hi (by omega)⟩
  | succ k ih =>
   intro hk
   obtain ⟨xs, hl, hc⟩ := ih (by omega)
   obtain ⟨v, _, hv⟩ := h k (by omega)
   refine ⟨xs ++ [(v : Int)], by simp [hl], fun i hi => ?_⟩
   rcases Nat.lt_or_ge i k with h1 | h1
   · rw [hc i h1]
     simp only [List.getD_eq_getElem?_getD]
     rw [List.getElem?_append_left (by omega)]
   · have : i = k := by omega
     subst this
     rw [hv]
     simp only [List.getD_eq_getElem?_getD]
     rw [List.getElem?_append_right (by omega), hl]
     simp
 obtain ⟨xs, hl, hc⟩ := hx m (Nat.le_refl _)
 exact ⟨strOfNums xs, by rw [strOfNums_size, hl], run_convert_bytes_arg (P := Tryz.prog) w 53 5 Tryz.underlying53 Tryz.underlying5 g o m cap xs hl hc 9 Tryz.underlying9⟩
theorem elemB : Elem Tryz.prog 53 5 1 1 := Elem.of Tryz.underlying53 infoB rfl (by decide)
theorem own_some' {w : World} {base e k n c : Nat} {A : Option Addr} {xs : List Value} (h : w.ownsRow base e k (.slice A n c) n xs) (hn : 0 < n) : ∃ g, A = some ⟨g, 0, none⟩ := by
 obtain ⟨g, cap, e, _⟩ := h.form hn
 injection e with e1
 exact ⟨g, e1⟩
theorem wpList_byte {w : World} {ops : Array Oper} {rest : List Oper} {o : Oper} {a : Act} {Q : Exit → Act → World → Prop} (hgd : o.guard = none) (s x : Operand)
    (ho : o.op = .call { callee := .builtin .append, args := #[s, x], argTypes := #[53, 53] }) (base g n cap : Nat) (hs : a.eval s = .slice (some ⟨g, 0, none⟩) n cap) (h : By w base g n cap) (hbase : base ≤ w.heap.size)
    (b d v : Nat) (hv : v < 256) (hx : a.eval x = .slice (some ⟨b, 0, none⟩) 1 d) (hc : w.cell? ⟨b, 0, none⟩ = some (.int .u8 (v : Int))) (hn : n ≤ 1000000)
    (hk : ∀ g' cap' w', By w' base g' (n + 1) cap' → (∀ B, B ≤ base → Below B w w') → wpList Tryz.prog ops Q rest (a.put o.dst (.slice (some ⟨g', 0, none⟩) (n + 1) cap')) w') : wpList Tryz.prog ops Q (o :: rest) a w := by
 obtain ⟨i, z, hi, hz, hsz, hby, hzs⟩ := elemB.row
 have hol : ∀ k, k ≤ n → ∃ olds : List Value, olds.length = k ∧ ∀ j, j < k → ∃ v : Nat, v < 256 ∧ olds[j]? = some (.int .u8 (v : Int)) ∧ w.cell? ⟨g, j, none⟩ = some (.int .u8 (v : Int)) := by
  intro k
  induction k with
  | zero => intro _; exact ⟨[], rfl, fun i hi => absurd hi (by omega)⟩
  | succ k ih =>
   intro hk
   obtain ⟨olds, hl, hc⟩ := ih (by omega)
   obtain ⟨v, hv, hcv⟩ := h.2.2.2.1 k (by omega)
   refine ⟨olds ++ [.int .u8 (v : Int)], by simp [hl], fun j hj => ?_⟩
   rcases Nat.lt_or_ge j k with h1 | h1
   · obtain ⟨u, hu, h2, h3⟩ := hc j h1
     exact ⟨u, hu, by rw [List.getElem?_append_left (by omega)]; exact h2, h3⟩
   · have : j = k := by omega
     subst this
     exact ⟨v, hv, by rw [List.getElem?_append_right (by omega), hl]; simp, hcv⟩
 obtain ⟨olds, hl, hoc⟩ := hol n (Nat.le_refl _)
 refine wpList_append_arg w hgd s x 53 ho 5 i z 1 1 elemB.under hi hz hsz hby hzs (by decide) g 0 n cap olds hs (by rw [hl]; omega) (fun j u hu => ?_) ⟨b, 0, none⟩ 1 d [.int .u8 (v : Int)] hx rfl (fun j u hu => ?_) (by simp [Value.oneCell']) (fun hr j hj => ?_) (by unfold maxLen; omega) (by omega) (fun hr => ?_) (fun hr v' w' hown hg => ?_)
 · have hj : j < n := by have := (List.getElem?_eq_some_iff.1 hu).1; omega
   obtain ⟨v, _, h2, h3⟩ := hoc j hj
   rw [Nat.zero_add, h3, ← h2, hu]
 · match j, hu with
   | 0, hu => rw [add_off]; simp at hu; rw [← hu]; exact hc
   | j + 1, hu => simp at hu
 · have : j = 0 := by simpa using hj
   subst this
   rw [Nat.zero_add, Nat.mul_one, Nat.add_zero]
   exact h.2.2.2.2 n (by omega)
 · have e : w.setCells g (0 + n * 1) [.int .u8 (v : Int)] = w.setCell ⟨g, n, none⟩ (.int .u8 (v : Int)) := by
     rw [Nat.zero_add, Nat.mul_one]; rfl
   rw [e]
   exact hk g cap _ (h.put (by omega) v hv) (fun B hB => (Below.refl _ _).setCell (by show B ≤ g; have := h.1; omega) _)
 · obtain ⟨A, c, rfl⟩ := ownsRow_form hown
   obtain ⟨g', rfl⟩ := own_some' hown (by omega)
   refine hk g' c w' (By.own (base := base) (hown.mono hbase) (fun j hj => ?_)) (fun B hB => below_grown (Below.refl _ _) (by omega) hg (fun q hq => by cases hq))
   rcases Nat.lt_or_ge j n with h1 | h1
   · obtain ⟨u, hu, h2, _⟩ := hoc j h1
     exact ⟨u, hu, by rw [List.getElem?_append_left (by omega)]; exact h2⟩
   · have : j = n := by omega
     subst this
     exact ⟨v, hv, by rw [List.getElem?_append_right (by omega), hl]; simp⟩
open Go.RowKit
theorem below_conv (w : World) (e : TypeId) (s : ByteArray) : Below w.heap.size w (Lib.bytesWorld w e s) :=
 ⟨rfl, rfl, rfl, by rw [Lib.bytesWorld_size]; omega, fun k hk => Lib.bytesWorld_at_old w e s k hk⟩
theorem By.low {w : World} {base base' g n cap : Nat} (h : By w base g n cap) (hb : base' ≤ base) : By w base' g n cap := ⟨Nat.le_trans hb h.1, h.2⟩
theorem By.list {w : World} {base g n cap : Nat} (h : By w base g n cap) : ∃ K : List Value, K.length = n ∧ (∀ j, j < n → ∃ v : Nat, v < 256 ∧ K[j]? = some (.int .u8 (v : Int))) ∧ w.rangeAt g 0 K := by
 have hol : ∀ k, k ≤ n → ∃ olds : List Value, olds.length = k ∧ ∀ j, j < k → ∃ v : Nat, v < 256 ∧ olds[j]? = some (.int .u8 (v : Int)) ∧ w.cell? ⟨g, j, none⟩ = some (.int .u8 (v : Int)) := by
  intro k
  induction k with
  | zero => intro _; exact ⟨[], rfl, fun i hi => absurd hi (by omega)⟩
  | succ k ih =>
   intro hk
   obtain ⟨olds, hl, hc⟩ := ih (by omega)
   obtain ⟨v, hv, hcv⟩ := h.2.2.2.1 k (by omega)
   refine ⟨olds ++ [.int .u8 (v : Int)], by simp [hl], fun j hj => ?_⟩
   rcases Nat.lt_or_ge j k with h1 | h1
   · obtain ⟨u, hu, h2, h3⟩ := hc j h1
     exact ⟨u, hu, by rw [List.getElem?_append_left (by omega)]; exact h2, h3⟩
   · have : j = k := by omega
     subst this
     exact ⟨v, hv, by rw [List.getElem?_append_right (by omega), hl]; simp, hcv⟩
 obtain ⟨K, hl, hc⟩ := hol n (Nat.le_refl _)
 refine ⟨K, hl, fun j hj => by obtain ⟨v, hv, h2, _⟩ := hc j hj; exact ⟨v, hv, h2⟩, fun j u hu => ?_⟩
 have hj : j < n := by have := (List.getElem?_eq_some_iff.1 hu).1; omega
 obtain ⟨v, _, h2, h3⟩ := hc j hj
 rw [Nat.zero_add, h3, ← h2, hu]
theorem By.set {w : World} {base g n cap : Nat} (h : By w base g n cap) (k x : Nat) (hk : k < n) (hx : x < 256) : By (w.setCell ⟨g, k, none⟩ (.int .u8 (x : Int))) base g n cap := by
 obtain ⟨h1, h2, h3, h4, h5⟩ := h
 obtain ⟨u, hu⟩ := Option.isSome_iff_exists.1 (h5 k (by omega)).1
 refine ⟨h1, by simpa using h2, h3, fun j hj => ?_, fun j hj => ⟨?_, (frz_set _ _ _ _).trans (h5 j hj).2⟩⟩
 · by_cases e : k = j
   · subst e; exact ⟨x, hx, World.cell?_setCell_same _ _ _ hu⟩
   · obtain ⟨v, hv, hc⟩ := h4 j hj; exact ⟨v, hv, (World.cell?_setCell_other _ _ _ _ (off_ne g e)).trans hc⟩
 · by_cases e : k = j
   · subst e; rw [World.cell?_setCell_same _ _ _ hu]; rfl
   · rw [World.cell?_setCell_other _ _ _ _ (off_ne g e)]; exact (h5 j hj).1
theorem By.grown {w w' : World} {base g n cap : Nat} {row : Option Nat} (h : By w base g n cap) (hg : w.grownBy w' row) (hne : row ≠ some g) : By w' base g n cap :=
 ⟨h.1, Nat.lt_of_lt_of_le h.2.1 hg.size, h.2.2.1, fun j hj => by obtain ⟨v, hv, hc⟩ := h.2.2.2.1 j hj; exact ⟨v, hv, (hg.cell_far ⟨g, j, none⟩ h.2.1 (by simpa using fun e => hne e.symm)).trans hc⟩, fun j hj => ⟨by rw [hg.cell_far ⟨g, j, none⟩ h.2.1 (by simpa using fun e => hne e.symm)]; exact (h.2.2.2.2 j hj).1, (hg.frozen_far ⟨g, j, none⟩ h.2.1 (by simpa using fun e => hne e.symm)).trans (h.2.2.2.2 j hj).2⟩⟩
theorem u8_wrap (e : Int) : ∃ v : Nat, v < 256 ∧ IntKind.u8.wrap e = (v : Int) := by
 have h := wrap_within .u8 e
 simp only [IntKind.min, IntKind.max, IntKind.signed, IntKind.bits] at h
 exact ⟨(IntKind.u8.wrap e).toNat, by simp at h; omega, by simp at h; omega⟩
def lenV : Value → Nat
 | .slice _ n _ => n
 | _ => 0
def zeroB (n : Nat) : List Value := List.replicate n (.int .u8 0)
theorem By.zero (w : World) (n : Nat) (T : TypeId) : By (w.alloc (.cells (zeroB n).toArray T)) w.heap.size w.heap.size n n := by
 have h := Vz.new w (zeroB n) T
 have hl : (zeroB n).length = n := by simp [zeroB]
 refine ⟨Nat.le_refl _, h.lt, Nat.le_refl _, fun j hj => ⟨0, by omega, h.cells j _ (by simp [zeroB, hj])⟩, fun j hj => ⟨by rw [h.cells j (.int .u8 0) (by simp [zeroB, hj])]; rfl, h.free j (by omega)⟩⟩
theorem info32 : (Tryz.prog.info? 144).map (·.size) = some 32 := by kernel_rfl
theorem cell0 (w : World) (v : Value) (T : TypeId) : (w.alloc (.cells #[v] T)).cell? ⟨w.heap.size, 0, none⟩ = some v := by simp
theorem By.setE {w : World} {base g n cap : Nat} (h : By w base g n cap) (k : Nat) (E : Int) (hk : k < n) (hE : ∃ v : Nat, v < 256 ∧ E = (v : Int)) : By (w.setCell ⟨g, k, none⟩ (.int .u8 E)) base g n cap := by
 obtain ⟨v, hv, rfl⟩ := hE
 exact h.set k v hk hv
theorem u8_mod (e : Int) : ∃ v : Nat, v < 256 ∧ e % 256 = (v : Int) := ⟨(e % 256).toNat, by omega, by omega⟩
theorem wpList_byteE {w : World} {ops : Array Oper} {rest : List Oper} {o : Oper} {a : Act} {Q : Exit → Act → World → Prop} (hgd : o.guard = none) (s x : Operand)
    (ho : o.op = .call { callee := .builtin .append, args := #[s, x], argTypes := #[53, 53] }) (base g n cap : Nat) (hs : a.eval s = .slice (some ⟨g, 0, none⟩) n cap) (h : By w base g n cap) (hbase : base ≤ w.heap.size)
    (b d : Nat) (E : Int) (hx : a.eval x = .slice (some ⟨b, 0, none⟩) 1 d) (hc : w.cell? ⟨b, 0, none⟩ = some (.int .u8 E)) (hE : ∃ v : Nat, v < 256 ∧ E = (v : Int)) (hn : n ≤ 1000000)
    (hk : ∀ g' cap' w', By w' base g' (n + 1) cap' → (∀ B, B ≤ base → Below B w w') → wpList Tryz.prog ops Q rest (a.put o.dst (.slice (some ⟨g', 0, none⟩) (n + 1) cap')) w') : wpList Tryz.prog ops Q (o :: rest) a w := by
 obtain ⟨v, hv, rfl⟩ := hE
 exact wpList_byte hgd s x ho base g n cap hs h hbase b d v hv hx hc hn hk
theorem run_win (g N cap p : Nat) (h : p + 64 ≤ cap) (W : World) : (Instr.slice 53 (.slice (some ⟨g, 0, none⟩) N cap) (some (.int .i64 (p : Int))) (some (.int .i64 ((p : Int) + 64))) none).run Tryz.prog W = .ok (.slice (some ⟨g, p, none⟩) 64 (cap - p)) W := by
 have ht : Tryz.prog.underlying 53 = some (.slice (Tryz.prog.elem 53)) := by kernel_rfl
 have he : Tryz.prog.elem 53 = 5 := by kernel_rfl
 have hq : ((p : Int) + 64).toNat = p + 64 := by omega
 rw [run_slice_lh _ _ _ _ _ ht .i64 .i64 (p : Int) ((p : Int) + 64) (by omega) (by omega) (by omega), he, Tryz.sizeOf5]
 simp only [Result.andThen, sliced, Int.toNat_natCast, hq]
 rw [if_neg (by omega)]
 simp [add_plain']
theorem world_eq {P : Program} {c : Code} {Q : Exit → Act → World → Prop} {a : Act} {W W' : World} (h : W = W') (k : Code.wp P c Q a W') : Code.wp P c Q a W := h ▸ k
def RetBytes (w : World) (e : Ending) (w' : World) : Prop := ∃ K : List Value, e = .returned (.agg K.toArray) ∧ K.length = 32 ∧ (∀ j, j < 32 → ∃ v : Nat, v < 256 ∧ K[j]? = some (.int .u8 (v : Int))) ∧ Below w.heap.size w w'
set_option maxRecDepth 100000 in
set_option maxHeartbeats 4000000 in
theorem sum_any (g : Nat) (r : ByteArray) (nn : Int) (w : World) (h : Hs w g r nn) (hr : r.size < 64) : Calls Tryz.prog 117 #[.pointer (some ⟨g, 0, none⟩)] w (RetBytes w) := by
 have H := hD h
 have HR0 := hD (By.zero w 32 144)
 have hb0 := below_new w (.cells (zeroB 32).toArray 144)
 obtain ⟨w1, hw1⟩ : ∃ w1, w1 = w.alloc (.cells (zeroB 32).toArray 144) := ⟨_, rfl⟩
 rw [← hw1] at HR0 hb0
 have hz1 : w1.heap.size = w.heap.size + 1 := by rw [hw1]; simp
 have HZ1 := hD hz1
 have HW1 : Hid (w.alloc (.cells (zeroB 32).toArray 144) = w1) := hD hw1.symm
 have HB1 := hD hb0
 have H1 := hD (h.below hb0)
 clear h hw1 hb0 hz1
 have kc := fun W => Lib.run_convert_string_bytes (P := Tryz.prog) W 9 53 5 (r ++ ByteArray.mk #[128]) Tryz.underlying9 Tryz.underlying53 Tryz.underlying5
 have hsz : (r ++ ByteArray.mk #[128]).size = r.size + 1 := by rw [ByteArray.size_append]; rfl
 have HSz := hD hsz
 clear hsz
 go_enter Tryz.func117, Tryz.ntmps117
 go_upto_region 1 with fail
 refine world_eq HW1.out ?_
 have c8 := H1.out.rest
 have lg := H1.out.words.lt
 go_wp2_with fail
 have HByc : Hid (By (Lib.bytesWorld w1 5 (r ++ ByteArray.mk #[128])) (w.heap.size + 1) w1.heap.size (r.size + 1) (grownCap w1 (r.size + 1) 0 5)) := hD (by
  have h9 := (By.conv w1 5 (r ++ ByteArray.mk #[128])).low (base' := w.heap.size + 1) (by rw [HZ1.out]; exact Nat.le_refl _)
  rw [HSz.out] at h9
  exact h9)
 have HLc : Hid (Below (w.heap.size + 1) w1 (Lib.bytesWorld w1 5 (r ++ ByteArray.mk #[128]))) := hD (by rw [← HZ1.out]; exact below_conv w1 _ _)
 generalize Lib.bytesWorld w1 5 (r ++ ByteArray.mk #[128]) = w2 at HByc HLc ⊢
 generalize grownCap w1 (r.size + 1) 0 5 = cap0 at HByc ⊢
 generalize w1.heap.size = g0 at HByc ⊢
 have hr1 : 1 ≤ r.size + 1 := by omega
 have hr2 : r.size + 1 ≤ 120 := by omega
 generalize r.size + 1 = n0 at HByc hr1 hr2 ⊢
 clear c8 lg kc HSz
 go_loopw [3] (fun q wr => ∃ g1 n1 cap, q = .slice (some ⟨g1, 0, none⟩) n1 cap ∧ 1 ≤ n1 ∧ n1 ≤ 120 ∧ By wr (w.heap.size + 1) g1 n1 cap ∧ Below (w.heap.size + 1) w1 wr) (fun q _ => 120 - lenV q)
 case atStart => exact ⟨g0, n0, cap0, rfl, hr1, hr2, HByc.out, HLc.out⟩
 case round =>
  obtain ⟨g1, n1, cap, rfl, hn1, hn2, hby, hbl⟩ := hrel
  have HY := hD hby
  have HB := hD hbl
  have hzr : w.heap.size + 1 ≤ wr.heap.size := Nat.le_trans (Nat.le_of_eq HZ1.out.symm) hbl.size
  have m0 : (0 : Int) ≤ (n1 : Int) := by omega
  clear hby hbl
  by_cases h56 : n1 % 64 = 56
  · have q1 : ((n1 : Int) % 64 != 56) = false := by rw [bne_eq_false_iff_eq]; omega
    have q2 : (n1 : Int) % 64 = 56 := by omega
    have HM := hD h56
    clear h56
    go_wp2_with fail
    clear q1 q2
    go_loopw [22, 3, 4] (fun i q _ wr => ∃ k g2 cap2, i = .int .i64 ((k : Nat) : Int) ∧ q = .slice (some ⟨g2, 0, none⟩) (n1 + k) cap2 ∧ k ≤ 8 ∧ By wr (w.heap.size + 1) g2 (n1 + k) cap2 ∧ Below (w.heap.size + 1) w1 wr) (fun i _ _ _ => 8 - (intOf i).toNat)
    case atStart => exact ⟨0, g1, cap, rfl, rfl, by omega, HY.out, HB.out⟩
    case round =>
     rename World => wy
     obtain ⟨k, g2, cap2, rfl, rfl, hk, hby, hbl⟩ := hrel
     have HY := hD hby
     have HB := hD hbl
     have hzr : w.heap.size + 1 ≤ wy.heap.size := Nat.le_trans (Nat.le_of_eq HZ1.out.symm) hbl.size
     clear hby hbl
     have k0' : (0 : Int) ≤ (k : Int) := by omega
     by_cases hlt : k < 8
     · have k1 : (k : Int) < 8 := by omega
       have c9 : wy.cell? ⟨g, 9, none⟩ = some (.int .u64 nn) := (HB.out.cell (p := ⟨g, 9, none⟩) (by have := H.out.words.lt; show g < w.heap.size + 1; omega)).trans H1.out.len
       have lg : g < wy.heap.size := by have := H.out.words.lt; omega
       go_wp2_with (at_builtin; refine wpList_byteE rfl _ _ rfl (w.heap.size + 1) g2 (n1 + k) cap2 rfl (HY.out.below (below_new _ _)) (by simp; omega) wy.heap.size 1 _ rfl (cell0 _ _ _) (by first | exact u8_wrap _ | exact u8_mod _) (by omega) ?_)
       intro g4 cap4 w4 hby4 hbw
       have HY4 := hD hby4
       have HB4 := hD ((HB.out.trans ((below_new wy _).mono hzr)).trans (hbw _ (Nat.le_refl _)))
       clear hby4 hbw c9 lg
       go_wp2_with fail
       go_roundw
       case rel => exact ⟨k + 1, g4, cap4, by go_num, by first | rfl | simp [Nat.add_assoc], by omega, by have h9 := HY4.out; rw [Nat.add_assoc] at h9; exact h9, HB4.out⟩
       case measure => simp [intOf]; omega
     · have j1 : (8 : Int) ≤ (k : Int) := by omega
       have j2 : ¬ (k : Int) < 8 := by omega
       obtain ⟨N, hN⟩ : ∃ N, N = n1 + k := ⟨_, rfl⟩
       obtain ⟨cc, hcc⟩ : ∃ cc, N = 64 * cc := ⟨N / 64, by have := HM.out; omega⟩
       have hN1 : N ≤ 128 := by omega
       rw [← hN] at HY ⊢
       clear hN hlt hk
       have HL := hD HB.out
       obtain ⟨s0, a0⟩ := H.out.words.cells 0 (by omega)
       obtain ⟨s1, a1⟩ := H.out.words.cells 1 (by omega)
       obtain ⟨s2, a2⟩ := H.out.words.cells 2 (by omega)
       obtain ⟨s3, a3⟩ := H.out.words.cells 3 (by omega)
       obtain ⟨s4, a4⟩ := H.out.words.cells 4 (by omega)
       obtain ⟨s5, a5⟩ := H.out.words.cells 5 (by omega)
       obtain ⟨s6, a6⟩ := H.out.words.cells 6 (by omega)
       obtain ⟨s7, a7⟩ := H.out.words.cells 7 (by omega)
       have lw : g < w.heap.size + 1 := by have := H.out.words.lt; omega
       have b0 : wy.cell? ⟨g, 0, none⟩ = some (.int .u32 s0) := (HB.out.cell (p := ⟨g, 0, none⟩) lw).trans ((HB1.out.cell (p := ⟨g, 0, none⟩) H.out.words.lt).trans a0)
       have b1 : wy.cell? ⟨g, 1, none⟩ = some (.int .u32 s1) := (HB.out.cell (p := ⟨g, 1, none⟩) lw).trans ((HB1.out.cell (p := ⟨g, 1, none⟩) H.out.words.lt).trans a1)
       have b2 : wy.cell? ⟨g, 2, none⟩ = some (.int .u32 s2) := (HB.out.cell (p := ⟨g, 2, none⟩) lw).trans ((HB1.out.cell (p := ⟨g, 2, none⟩) H.out.words.lt).trans a2)
       have b3 : wy.cell? ⟨g, 3, none⟩ = some (.int .u32 s3) := (HB.out.cell (p := ⟨g, 3, none⟩) lw).trans ((HB1.out.cell (p := ⟨g, 3, none⟩) H.out.words.lt).trans a3)
       have b4 : wy.cell? ⟨g, 4, none⟩ = some (.int .u32 s4) := (HB.out.cell (p := ⟨g, 4, none⟩) lw).trans ((HB1.out.cell (p := ⟨g, 4, none⟩) H.out.words.lt).trans a4)
       have b5 : wy.cell? ⟨g, 5, none⟩ = some (.int .u32 s5) := (HB.out.cell (p := ⟨g, 5, none⟩) lw).trans ((HB1.out.cell (p := ⟨g, 5, none⟩) H.out.words.lt).trans a5)
       have b6 : wy.cell? ⟨g, 6, none⟩ = some (.int .u32 s6) := (HB.out.cell (p := ⟨g, 6, none⟩) lw).trans ((HB1.out.cell (p := ⟨g, 6, none⟩) H.out.words.lt).trans a6)
       have b7 : wy.cell? ⟨g, 7, none⟩ = some (.int .u32 s7) := (HB.out.cell (p := ⟨g, 7, none⟩) lw).trans ((HB1.out.cell (p := ⟨g, 7, none⟩) H.out.words.lt).trans a7)
       have lg : g < wy.heap.size := by omega
       have HV : Hid (Ar (wy.alloc (.cells #[.int .u32 s0, .int .u32 s1, .int .u32 s2, .int .u32 s3, .int .u32 s4, .int .u32 s5, .int .u32 s6, .int .u32 s7] 213)) wy.heap.size 8) := hD (Ar.vz (Vz.new wy [.int .u32 s0, .int .u32 s1, .int .u32 s2, .int .u32 s3, .int .u32 s4, .int .u32 s5, .int .u32 s6, .int .u32 s7] 213) 8 (Nat.le_refl _) (eight_at s0 s1 s2 s3 s4 s5 s6 s7))
       have HY9 := hD (HY.out.below (below_new wy (.cells #[.int .u32 s0, .int .u32 s1, .int .u32 s2, .int .u32 s3, .int .u32 s4, .int .u32 s5, .int .u32 s6, .int .u32 s7] 213)))
       have HB9 := hD (HB.out.trans ((below_new wy (.cells #[.int .u32 s0, .int .u32 s1, .int .u32 s2, .int .u32 s3, .int .u32 s4, .int .u32 s5, .int .u32 s6, .int .u32 s7] 213)).mono hzr))
       clear a0 a1 a2 a3 a4 a5 a6 a7
       go_upto_region 10 with fail
       clear b0 b1 b2 b3 b4 b5 b6 b7 lg lw j1 j2
       generalize wy.alloc (.cells #[.int .u32 s0, .int .u32 s1, .int .u32 s2, .int .u32 s3, .int .u32 s4, .int .u32 s5, .int .u32 s6, .int .u32 s7] 213) = w9 at HV HY9 HB9 ⊢
       have HSB : Hid (w.heap.size + 1 ≤ wy.heap.size ∧ g2 < wy.heap.size) := hD ⟨hzr, HY.out.2.1⟩
       generalize wy.heap.size = sb at HV HSB ⊢
       clear hzr
       go_wp2_with fail
       go_loopw [6] (fun i wr => ∃ p k : Nat, p = 64 * k ∧ i = .int .i64 (p : Int) ∧ p ≤ N ∧ Ar wr sb 8 ∧ By wr (w.heap.size + 1) g2 N cap2 ∧ Below (w.heap.size + 1) w1 wr) (fun i _ => 128 - (intOf i).toNat)
       case atStart => exact ⟨0, 0, rfl, rfl, by omega, HV.out, HY9.out, HB9.out⟩
       case round =>
        rename World => wz
        obtain ⟨p, k2, hp, rfl, hpN, hav, hby, hbl⟩ := hrel
        have HV := hD hav
        have HY := hD hby
        have HB := hD hbl
        have hzr : w.heap.size + 1 ≤ wz.heap.size := Nat.le_trans (Nat.le_of_eq HZ1.out.symm) hbl.size
        clear hav hby hbl
        have p0' : (0 : Int) ≤ (p : Int) := by omega
        by_cases hlt : p < N
        · have p1 : (p : Int) < (N : Int) := by omega
          have hp64 : p + 64 ≤ N := by omega
          have hcap := HY.out.2.2.1
          obtain ⟨str, hsz, hconv⟩ := conv_some (w := wz) (g := g2) (o := p) (m := 64) (cap := cap2 - p) (fun j hj => HY.out.2.2.2.1 (p + j) (by omega))
          have hwin := run_win g2 N cap2 p (by omega)
          have e1 : (p : Int) + 64 ≤ 9223372036854775807 := by omega
          have HP := hD hp
          have HCs := hD hcc
          have HSz := hD hsz
          clear hp hcc hsz
          go_wp2_with fail
          refine (add_any sb str wz HV.out (by rw [HSz.out]; exact Nat.le_refl _) (by rw [HSz.out]; decide)).mono ?_
          rintro e w5 ⟨rfl, hgr, har, _⟩
          have HV5 := hD har
          have HY5 := hD (HY.out.grown hgr (by have := HSB.out; simp; omega))
          have HB5 := hD (below_grown HB.out hzr hgr (fun q hq => by simp only [Option.some.injEq] at hq; have := HSB.out; omega))
          clear hgr har hconv hwin
          go_wp2_with fail
          go_roundw
          case rel => exact ⟨p + 64, k2 + 1, by have := HP.out; omega, by go_num, by omega, HV5.out, HY5.out, HB5.out⟩
          case measure => simp [intOf]; omega
        · have j1 : (N : Int) ≤ (p : Int) := by omega
          have j2 : ¬ (p : Int) < (N : Int) := by omega
          clear hp hcc hlt hpN
          have HO := hD ((By.zero wz 32 144).low hzr)
          have HV8 := hD (HV.out.below (below_new wz (.cells (zeroB 32).toArray 144)))
          have HB8 := hD (HB.out.trans ((below_new wz (.cells (zeroB 32).toArray 144)).mono hzr))
          have HSO : Hid (sb < wz.heap.size) := hD HV.out.lt
          obtain ⟨w8, hw8⟩ : ∃ w8, w8 = wz.alloc (.cells (zeroB 32).toArray 144) := ⟨_, rfl⟩
          have HW8 : Hid (wz.alloc (.cells (zeroB 32).toArray 144) = w8) := hD hw8.symm
          rw [← hw8] at HO HV8 HB8
          clear hw8
          go_upto_region 15 with fail
          refine world_eq HW8.out ?_
          generalize wz.heap.size = ob at HO HSO ⊢
          clear hzr j1 j2
          go_wp2_with fail
          go_loopw [56, 8] (fun i _ wr => ∃ k : Nat, i = .int .i64 (k : Int) ∧ k ≤ 32 ∧ By wr (w.heap.size + 1) ob 32 32 ∧ Ar wr sb 8 ∧ Below (w.heap.size + 1) w1 wr) (fun i _ _ => 32 - (intOf i).toNat)
          case atStart => exact ⟨0, rfl, by omega, HO.out, HV8.out, HB8.out⟩
          case round =>
           rename World => wq
           obtain ⟨k, rfl, hk, hby, hav, hbl⟩ := hrel
           have HY := hD hby
           have HV := hD hav
           have HB := hD hbl
           clear hby hav hbl
           have k0' : (0 : Int) ≤ (k : Int) := by omega
           by_cases hlt : k < 32
           · have k1 : (k : Int) < 32 := by omega
             obtain ⟨p4, hp4⟩ : ∃ p4 : Nat, p4 = k / 4 := ⟨_, rfl⟩
             obtain ⟨m4, hm4⟩ : ∃ m4 : Nat, m4 = k % 4 := ⟨_, rfl⟩
             have e1 : (k : Int) / 4 = (p4 : Int) := by omega
             have e2 : (k : Int) % 4 = (m4 : Int) := by omega
             have p8 : (p4 : Int) < 8 := by omega
             have p0 : (0 : Int) ≤ (p4 : Int) := by omega
             have q4 : (m4 : Int) < 4 := by omega
             have q0 : (0 : Int) ≤ (m4 : Int) := by omega
             obtain ⟨x, hx⟩ := HV.out.cells p4 (by omega)
             obtain ⟨y, hy⟩ := Option.isSome_iff_exists.1 (HY.out.2.2.2.2 k hlt).1
             have fy := (HY.out.2.2.2.2 k hlt).2
             have lv := HV.out.lt
             have lo := HY.out.2.1
             clear hp4 hm4
             go_wp2_with fail
             go_roundw
             case rel => exact ⟨k + 1, by go_num, by omega, HY.out.setE k _ hlt (by first | exact u8_wrap _ | exact u8_mod _), HV.out.grown (grown_set _ _ _) (by have := HSO.out; simp; omega), HB.out.setCell (by have := HY.out.1; exact this) _⟩
             case measure => simp [intOf]; omega
           · have j1 : (32 : Int) ≤ (k : Int) := by omega
             have j2 : ¬ (k : Int) < 32 := by omega
             obtain ⟨K, hl, hv, hrg⟩ := HY.out.list
             have hth : wq.there w.heap.size 0 32 := fun j hj => by
              rw [Nat.zero_add]
              have h9 := HR0.out.2.2.2.2 j hj
              exact ⟨by rw [HB.out.cell (p := ⟨w.heap.size, j, none⟩) (by show w.heap.size < w.heap.size + 1; omega)]; exact h9.1, (HB.out.frozen (p := ⟨w.heap.size, j, none⟩) (by show w.heap.size < w.heap.size + 1; omega)).trans h9.2⟩
             have hone : K.toArray.all (·.oneCell') = true := all_oneCell_toArray (fun u hu => by
              obtain ⟨i, hi, rfl⟩ := List.mem_iff_getElem.1 hu
              obtain ⟨v, _, h9⟩ := hv i (by omega)
              rw [List.getElem?_eq_getElem hi] at h9
              injection h9 with h9
              rw [h9]; rfl)
             have hinf : (Tryz.prog.info? 144).map (·.size) = some K.length := by rw [hl]; exact info32
             have hinf2 : (Tryz.prog.info? 144).map (·.size) = some K.toArray.size := by simpa using hinf
             have HK := hD hl
             have HKv := hD hv
             have HRg := hD hrg
             have HTh := hD hth
             have HOne := hD hone
             have HI1 := hD hinf
             have HI2 := hD hinf2
             clear hl hv hrg hth hone hinf hinf2
             go_wp2_with (first | (refine wpList_load_mid rfl 144 _ rfl ob 0 rfl K _ HRg.out Tryz.underlying144 rfl HI1.out ?_) | (refine wpList_store_mid rfl 144 _ _ rfl w.heap.size 0 K.toArray rfl rfl (by simpa [HK.out] using HTh.out) HI2.out HOne.out ?_))
             refine bodyPost_ret (v := .agg K.toArray) (results_midA Tryz.results117 _ _ w.heap.size K _ rfl (World.rangeAt_setCells_same _ _ _ _ (by rw [HK.out]; exact HTh.out)) Tryz.underlying144 rfl HI1.out) rfl ⟨K, rfl, HK.out, HKv.out, ?_⟩
             exact below_grown (HB1.out.trans (Below.mono HB.out (Nat.le_succ _))) (by have := HB.out.size; have := HB1.out.size; omega) (grown_setsA _ w.heap.size K 0) (fun b e => by simp only [Option.some.injEq] at e; omega)
  · have q1 : ((n1 : Int) % 64 != 56) = true := by rw [bne_iff_ne]; omega
    have hn3 : n1 < 120 := by omega
    go_wp2_with (at_builtin; refine wpList_byte rfl _ _ rfl (w.heap.size + 1) g1 n1 cap rfl (HY.out.below (below_new _ _)) (by simp; omega) wr.heap.size 1 0 (by decide) rfl (by simp) (by omega) ?_)
    intro g4 cap4 w4 hby4 hbw
    have HY4 := hD hby4
    have HB4 := hD ((HB.out.trans ((below_new wr _).mono hzr)).trans (hbw _ (Nat.le_refl _)))
    clear hby4 hbw q1
    go_wp2_with fail
    go_roundw
    case rel => exact ⟨g4, n1 + 1, cap4, rfl, by omega, by omega, HY4.out, HB4.out⟩
    case measure => simp [lenV]; omega
open Go.RowKit
theorem idx_byte (KL : List Value) (k : Nat) (c : Int) (h : KL[k]? = some (.int .u8 c)) (hk : k < 32) (W : World) : (Instr.index 144 (.agg KL.toArray) (.int .i64 (k : Int))).run Tryz.prog W = .ok (.int .u8 c) W := by
 have hu := Tryz.underlying144
 have i0 : (0 : Int) ≤ (k : Int) := by omega
 have i1 : (k : Int) < 32 := by omega
 have hs := Tryz.sizeOf5
 have ha := Tryz.isAgg5
 simp [Instr.index, run_underlying hu, asIntOf, part, go_sem, hs, ha, h, hk]
theorem mk64 (w : World) : (Instr.makeSlice 53 (.int .i64 0) (.int .i64 64)).run Tryz.prog w = .ok (.slice (some ⟨w.heap.size, 0, none⟩) 0 64) (w.alloc (.cells (zeroB 64).toArray 5)) := by kernel_rfl
theorem By.zero0 (w : World) (n : Nat) (T : TypeId) : By (w.alloc (.cells (zeroB n).toArray T)) w.heap.size w.heap.size 0 n := by
 have h := By.zero w n T
 exact ⟨h.1, h.2.1, Nat.zero_le _, fun j hj => absurd hj (by omega), h.2.2.2.2⟩
def RetTxt (n : Nat) (w : World) (e : Ending) (w' : World) : Prop := (∃ s : ByteArray, s.size = n ∧ e = .returned (.string s)) ∧ Below w.heap.size w w'
theorem and15 : ∀ x : Fin 256, bits .and .u8 (x.val : Int) 15 = ((x.val % 16 : Nat) : Int) := by decide +kernel
set_option maxRecDepth 100000 in
set_option maxHeartbeats 2000000 in
theorem digits_any (K : List Value) (w : World) (hl : K.length = 32) (hk : ∀ j, j < 32 → ∃ v : Nat, v < 256 ∧ K[j]? = some (.int .u8 (v : Int))) : Calls Tryz.prog 79 #[.agg K.toArray] w (RetTxt 64 w) := by
 have HK := hD hl
 have HKv := hD hk
 have HV := hD (Vz.new w K 144)
 have HB := hD (below_new w (.cells K.toArray 144))
 have hinf : (Tryz.prog.info? 144).map (·.size) = some K.length := by rw [hl]; exact info32
 have HI := hD hinf
 clear hl hk hinf
 go_enter Tryz.func79, Tryz.ntmps79
 have kc := mk64
 obtain ⟨w1, hw1⟩ : ∃ w1, w1 = (w.alloc (.cells K.toArray 144)).alloc (.cells (zeroB 64).toArray 5) := ⟨_, rfl⟩
 have HW1 : Hid ((w.alloc (.cells K.toArray 144)).alloc (.cells (zeroB 64).toArray 5) = w1) := hD hw1.symm
 have HV1 : Hid (Vz w1 w.heap.size K) := hD (by rw [hw1]; exact HV.out.below (below_new _ _))
 have HB1 : Hid (Below w.heap.size w w1) := hD (by rw [hw1]; exact bon HB.out (below_new _ _))
 have HY1 : Hid (By w1 (w.heap.size + 1) (w.heap.size + 1) 0 64) := hD (by
  rw [hw1]
  have h9 := By.zero0 (w.alloc (.cells K.toArray 144)) 64 5
  rw [World.size_alloc] at h9
  exact h9)
 clear hw1
 go_upto_region 2 with fail
 refine world_eq HW1.out ?_
 clear kc
 go_wp2_with (refine wpList_load_mid rfl 144 _ rfl w.heap.size 0 rfl K _ HV1.out.range Tryz.underlying144 rfl HI.out ?_)
 go_loopw [8, 3, 5] (fun i q _ wr => ∃ k g1 cap, i = .int .i64 ((k : Nat) : Int) ∧ q = .slice (some ⟨g1, 0, none⟩) (2 * k) cap ∧ k ≤ 32 ∧ 64 ≤ cap ∧ By wr (w.heap.size + 1) g1 (2 * k) cap ∧ Below w.heap.size w wr) (fun i _ _ _ => 32 - (intOf i).toNat)
 case atStart => exact ⟨0, w.heap.size + 1, 64, rfl, rfl, by omega, by omega, HY1.out, HB1.out⟩
 case round =>
  obtain ⟨k, g1, cap, rfl, rfl, hk, hc64, hby, hbl⟩ := hrel
  have HY := hD hby
  have HX := hD hbl
  clear hby hbl
  have k0' : (0 : Int) ≤ (k : Int) := by omega
  by_cases hlt : k < 32
  · have k1 : (k : Int) < 32 := by omega
    obtain ⟨x, hx, hkx⟩ := HKv.out k hlt
    have hix := idx_byte K k (x : Int) hkx hlt
    obtain ⟨p, hp⟩ : ∃ p, p = x / 16 := ⟨_, rfl⟩
    obtain ⟨q, hq⟩ : ∃ q, q = x % 16 := ⟨_, rfl⟩
    have e1 : (x : Int) / 16 = (p : Int) := by omega
    have e2 : bits .and .u8 (x : Int) 15 = (q : Int) := by rw [hq]; exact and15 ⟨x, hx⟩
    have p16 : p < 16 := by omega
    have q16 : q < 16 := by omega
    have p16i : (p : Int) < 16 := by omega
    have q16i : (q : Int) < 16 := by omega
    have p0i : (0 : Int) ≤ (p : Int) := by omega
    have q0i : (0 : Int) ≤ (q : Int) := by omega
    have x0 : (0 : Int) ≤ (x : Int) := by omega
    have x1 : (x : Int) < 256 := by omega
    obtain ⟨n, hn⟩ : ∃ n, n = 2 * k := ⟨_, rfl⟩
    have HN := hD hn
    rw [← hn] at HY ⊢
    have hn64 : n + 2 ≤ cap := by omega
    clear hkx hp hq hn
    go_wp2_with fail
    clear hix
    generalize hS : ByteArray.mk _ = S
    have hz : S.size = 16 := by rw [← hS]; rfl
    clear hS
    have sp : p < S.size := by omega
    have sq : q < S.size := by omega
    refine wp_region_noPanic ?_
    have HX : Hid (Below w.heap.size w wr.drew) := hD (HX.out.drew)
    have HY : Hid (By wr.drew (w.heap.size + 1) g1 n cap) := hD (HY.out.below (Below.refl _ _).drew)
    generalize hv : wr.drew = v0 at HX HY
    have hS0 : w.heap.size ≤ (World.heap v0).size := HX.out.size
    refine wp_region_held_drew (S := fun W => w.heap.size ≤ (World.heap W).size) (by kernel_rfl) (by rw [hv]; exact hS0) (fun hHeld => ?_)
    rw [hv] at hHeld ⊢
    clear hv
    refine takes [0,1,2,3,4,5,6] ?_
    have b1 : (S[p]'sp).toNat < 256 := byte_lt _
    have b2 : (S[q]'sq).toNat < 256 := byte_lt _
    generalize (S[p]'sp).toNat = u1 at b1 ⊢
    generalize (S[q]'sq).toNat = u2 at b2 ⊢
    refine tkr 7 rfl (fun K hK => ?_)
    go_simp
    have hbx := below_new v0 (.cells #[.int .u8 (u1 : Int), .int .u8 (u2 : Int)] 5)
    have HX := hD (bon HX.out hbx)
    have HY := hD (HY.out.below hbx)
    have hc := cell_new v0 [.int .u8 (u1 : Int), .int .u8 (u2 : Int)] 5 v0.heap.size rfl
    clear hbx
    generalize World.alloc v0 (.cells #[.int .u8 (u1 : Int), .int .u8 (u2 : Int)] 5) = v1 at HX HY hc ⊢
    generalize (World.heap v0).size = nb at hc ⊢
    refine hK.out _ _ HX.out.size (fun hHeld => ?_)
    clear hK K
    try simp only [Act.put,qk1,qk2,qk3,qk4,qk5,qk6]
    obtain ⟨i, z, hi, hzz, hsz, hby, hzs⟩ := elemB.row
    refine tkr 8 rfl (fun K hK => ?_)
    refine step_append_room rfl _ _ 53 (by rfl) 5 i 1 elemB.under hi hsz g1 0 n cap (by rfl) ⟨nb, 0, none⟩ 2 _ [.int .u8 (u1 : Int), .int .u8 (u2 : Int)] (by rfl) rfl hc (by simp [Value.oneCell']) hn64 (fun j hj => by
     have hj2 : j < 2 := hj
     rw [Nat.zero_add, Nat.mul_one]
     exact HY.out.2.2.2.2 (n + j) (by omega)) ?_
    have hse : World.setCells v1 g1 (0 + n * 1) [.int .u8 (u1 : Int), .int .u8 (u2 : Int)] = (v1.setCell ⟨g1, n, none⟩ (.int .u8 (u1 : Int))).setCell ⟨g1, n + 1, none⟩ (.int .u8 (u2 : Int)) := by
     rw [Nat.zero_add, Nat.mul_one]; rfl
    rw [hse]
    have HZ := hD ((HY.out.put (by omega) u1 b1).put (by omega) u2 b2)
    have HXz := hD ((HX.out.setCell (p := ⟨g1, n, none⟩) (by have := HY.out.1; show w.heap.size ≤ g1; omega) (.int .u8 (u1 : Int))).setCell (p := ⟨g1, n + 1, none⟩) (by have := HY.out.1; show w.heap.size ≤ g1; omega) (.int .u8 (u2 : Int)))
    generalize (v1.setCell ⟨g1, n, none⟩ (.int .u8 (u1 : Int))).setCell ⟨g1, n + 1, none⟩ (.int .u8 (u2 : Int)) = v2 at HZ HXz ⊢
    clear hi hzz hsz hby hzs hse hc e1 e2
    refine hK.out _ _ HXz.out.size (fun hHeld => ?_)
    clear hK K
    try simp only [Act.put,qk1,qk2,qk3,qk4,qk5,qk6]
    refine takes [9] ?_
    refine wpAnyH_done (by kernel_rfl) ?_ _
    refine NoPanic.normal ?_
    go_wp2_with fail
    go_roundw
    case rel => exact ⟨k + 1, g1, cap, by go_num, by rw [HN.out]; rfl, by omega, hc64, by have h9 := HZ.out; rw [HN.out] at h9; exact h9, HXz.out⟩
    case measure => simp [intOf]; omega
  · obtain rfl : k = 32 := by omega
    obtain ⟨str, hsz, hconv⟩ := conv_some (w := wr) (g := g1) (o := 0) (m := 64) (cap := cap) (fun j hj => by rw [Nat.zero_add]; exact HY.out.2.2.2.1 j (by omega))
    have HSz := hD hsz
    clear hsz
    go_wp2_with fail
    go_ret
    exact ⟨⟨str, HSz.out, rfl⟩, HX.out⟩
open Go.RowKit
set_option maxRecDepth 100000 in
set_option maxHeartbeats 2000000 in
theorem sumS_any (s : ByteArray) (w : World) (hs : s.size ≤ 1048576) : Calls Tryz.prog 80 #[.string s] w (RetBytes w) := by
 have HR0 := hD (By.zero w 32 144)
 have hb0 := below_new w (.cells (zeroB 32).toArray 144)
 obtain ⟨w1, hw1⟩ : ∃ w1, w1 = w.alloc (.cells (zeroB 32).toArray 144) := ⟨_, rfl⟩
 rw [← hw1] at HR0 hb0
 have HW1 : Hid (w.alloc (.cells (zeroB 32).toArray 144) = w1) := hD hw1.symm
 have HZ1 : Hid (w1.heap.size = w.heap.size + 1) := hD (by rw [hw1]; simp)
 have HB1 := hD hb0
 clear hw1 hb0
 go_enter Tryz.func80, Tryz.ntmps80
 go_upto_region 1 with fail
 refine world_eq HW1.out ?_
 go_wp2_with fail
 refine (new_any w1).mono ?_
 rintro e w2 ⟨g, rfl, hge, hh, hb⟩
 have HH := hD hh
 have HB2 := hD (bon HB1.out hb)
 have HR2 := hD (HR0.out.below hb)
 have HGe : Hid (w.heap.size < g) := hD (by rw [HZ1.out] at hge; omega)
 clear hh hb hge
 go_wp2_with fail
 refine (write_any g s w2 HH.out hs).mono ?_
 rintro e w3 ⟨rfl, hgr, r, n, hr, hh⟩
 have HH3 := hD hh
 have HR3 := hD (HR2.out.grown hgr (by have := HGe.out; simp; omega))
 have HB3 := hD (below_grown HB2.out HB2.out.size hgr (fun q hq => by simp only [Option.some.injEq] at hq; have := HGe.out; omega))
 have HSm := hD (sum_any g r n w3 hh hr)
 clear hgr hh hr
 go_wp2_with fail
 refine HSm.out.mono ?_
 rintro e w4 ⟨K, rfl, hl, hv, hb⟩
 have HB4 := hD (bon HB3.out hb)
 have HR4 := hD (HR3.out.below hb)
 have hth : w4.there w.heap.size 0 32 := fun j hj => by rw [Nat.zero_add]; exact HR4.out.2.2.2.2 j hj
 have hone : K.toArray.all (·.oneCell') = true := all_oneCell_toArray (fun u hu => by
  obtain ⟨i, hi, rfl⟩ := List.mem_iff_getElem.1 hu
  obtain ⟨v, _, h9⟩ := hv i (by omega)
  rw [List.getElem?_eq_getElem hi] at h9
  injection h9 with h9
  rw [h9]; rfl)
 have hinf : (Tryz.prog.info? 144).map (·.size) = some K.length := by rw [hl]; exact info32
 have hinf2 : (Tryz.prog.info? 144).map (·.size) = some K.toArray.size := by simpa using hinf
 have HK := hD hl
 have HKv := hD hv
 have HTh := hD hth
 have HOne := hD hone
 have HI1 := hD hinf
 have HI2 := hD hinf2
 clear hl hv hb hth hone hinf hinf2
 go_wp2_with (refine wpList_store_mid rfl 144 _ _ rfl w.heap.size 0 K.toArray rfl rfl (by simpa [HK.out] using HTh.out) HI2.out HOne.out ?_)
 refine bodyPost_ret (v := .agg K.toArray) (results_midA Tryz.results80 _ _ w.heap.size K _ rfl (World.rangeAt_setCells_same _ _ _ _ (by rw [HK.out]; exact HTh.out)) Tryz.underlying144 rfl HI1.out) rfl ⟨K, rfl, HK.out, HKv.out, ?_⟩
 exact below_grown HB4.out HB4.out.size (grown_setsA _ w.heap.size K 0) (fun b e => by simp only [Option.some.injEq] at e; omega)
set_option maxRecDepth 100000 in
set_option maxHeartbeats 2000000 in
theorem hex_any (s : ByteArray) (w : World) (hs : s.size ≤ 1048576) : Calls Tryz.prog 52 #[.string s] w (RetTxt 64 w) := by
 have HS := hD (sumS_any s w hs)
 go_enter Tryz.func52, Tryz.ntmps52
 go_wp2_with fail
 refine HS.out.mono ?_
 rintro e w2 ⟨K, rfl, hl, hv, hb⟩
 have HB := hD hb
 have HD := hD (digits_any K w2 hl hv)
 clear hl hv hb
 go_wp2_with fail
 refine HD.out.mono ?_
 rintro e w3 ⟨⟨t, ht, rfl⟩, hb⟩
 have HT := hD ht
 have HB3 := hD (bon HB.out hb)
 clear ht hb
 go_wp2_with fail
 go_ret
 exact ⟨⟨t, HT.out, rfl⟩, HB3.out⟩
set_option maxRecDepth 100000 in
set_option maxHeartbeats 2000000 in
theorem digShort_any (s : ByteArray) (w : World) (hs : s.size ≤ 1048576) : Calls Tryz.prog 112 #[.string s] w (RetTxt 16 w) := by
 have HS := hD (hex_any s w hs)
 go_enter Tryz.func112, Tryz.ntmps112
 go_wp2_with fail
 refine HS.out.mono ?_
 rintro e w2 ⟨⟨t, ht, rfl⟩, hb⟩
 have HT := hD ht
 have HB := hD hb
 have h16 : (16 : Int) ≤ (t.size : Int) := by omega
 clear ht hb
 go_wp2_with fail
 go_ret
 exact ⟨⟨t.extract 0 16, by simp [HT.out], rfl⟩, HB.out⟩
open Go.RowKit
set_option maxRecDepth 100000 in
set_option maxHeartbeats 2000000 in
theorem seContent_any (x : Sg) (hok : x.ok) (hs : x.sz ≤ 16777216) (w : World) :
    Calls Tryz.prog 114 #[.agg #[.int .i64 x.server, .int .i64 x.kind, .int .i64 x.view, .int .i64 x.slot, .string ⟨x.digest.toArray⟩, .string ⟨x.sig.toArray⟩]] w (RetStr (contSg x) w) := by
 have HI : Hid (∀ (w1 : World) (g : Nat) (R : Prop), (Bx w (sgC x) 42 (w1.alloc (.cells #[.int .i64 x.server, .int .i64 x.kind, .int .i64 x.view, .int .i64 x.slot] 3)).drew ∧ R) → w1.heap.size = g → Calls Tryz.prog 144 #[.slice (some ⟨g, 0, none⟩) 4 4] (w1.alloc (.cells #[.int .i64 x.server, .int .i64 x.kind, .int .i64 x.view, .int .i64 x.slot] 3)).drew (Gives w (sgC x) 42 (putInts [x.server, x.kind, x.view, x.slot]))) :=
  hD (fun w1 g _ hb hg => gives_ints [x.server, x.kind, x.view, x.slot] (by simp) (by simpa [List.forall_mem_cons, Sg.ok] using hok) (fun A c W hr => putInts_any A c _ W hr (by simp) (by simpa [List.forall_mem_cons, Sg.ok] using hok)) hb.1 hg)
 have hz := hs
 unfold Sg.sz at hz
 have HD : Hid (∀ (w1 : World) (R : Prop), (Bx w (sgC x) 42 w1 ∧ R) → Calls Tryz.prog 113 #[.string ⟨x.digest.toArray⟩] w1 (Gives w (sgC x) 42 (putStr x.digest))) :=
  hD (fun w1 _ hb => gives_of hb.1 (putString_any x.digest (by omega) w1))
 have HC : Hid (∀ w1, Bx w (sgC x) 42 w1 → Bx w (sgC x) 42 w1 ∧ w1.cell? ⟨w.heap.size, 0, none⟩ = some (.int .i64 x.server) ∧ w1.cell? ⟨w.heap.size, 1, none⟩ = some (.int .i64 x.kind) ∧ w1.cell? ⟨w.heap.size, 2, none⟩ = some (.int .i64 x.view) ∧
     w1.cell? ⟨w.heap.size, 3, none⟩ = some (.int .i64 x.slot) ∧ w1.cell? ⟨w.heap.size, 4, none⟩ = some (.string ⟨x.digest.toArray⟩)) :=
  hD (fun w1 hb => ⟨hb, bx_cell hb 0 _ rfl, bx_cell hb 1 _ rfl, bx_cell hb 2 _ rfl, bx_cell hb 3 _ rfl, bx_cell hb 4 _ rfl⟩)
 have H0 := hD (bx_new w (sgC x) 42)
 have hl1 := putInts_len [x.server, x.kind, x.view, x.slot] (by simpa [List.forall_mem_cons, Sg.ok] using hok) (by simp)
 have hl2 := putStr_len x.digest (by omega)
 simp only [List.length_cons, List.length_nil] at hl1
 have hq1 : ¬ (9223372036854775807 < (putInts [x.server, x.kind, x.view, x.slot]).length + (putStr x.digest).length) := by omega
 clear hok hs
 go_enter Tryz.func114, Tryz.ntmps114
 go_wp2_with fail
 go_region_held3 (fun w1 => Bx w (sgC x) 42 w1 ∧ w1.cell? ⟨w.heap.size, 0, none⟩ = some (.int .i64 x.server) ∧ w1.cell? ⟨w.heap.size, 1, none⟩ = some (.int .i64 x.kind) ∧ w1.cell? ⟨w.heap.size, 2, none⟩ = some (.int .i64 x.view) ∧
     w1.cell? ⟨w.heap.size, 3, none⟩ = some (.int .i64 x.slot) ∧ w1.cell? ⟨w.heap.size, 4, none⟩ = some (.string ⟨x.digest.toArray⟩))
  (first | exact HC.out _ (bx_drew H0.out) | exact HC.out _ (bx_alloc (‹Bx _ _ _ _ ∧ _›).1 _) | exact HC.out _ ‹Bx _ _ _ _›)
  (first
   | (go_at_call 144; refine (HI.out _ _ _ (by assumption) (by simp)).mono ?_; rintro e w2 ⟨rfl, b2⟩)
   | (go_at_call 113; refine (HD.out _ _ (by assumption)).mono ?_; rintro e w3 ⟨rfl, b3⟩))
 all_goals
  go_wp2_with fail
  go_ret
  exact ret_st rfl (bx_low ‹_›)
set_option maxRecDepth 100000 in
set_option maxHeartbeats 2000000 in
theorem within34_any (n a b : Int) (w : World) (h1 : a ≤ n) (h2 : n ≤ b) : Calls Tryz.prog 111 #[.int .i64 n, .int .i64 a, .int .i64 b] w (fun e w' => e = .returned (.bool true) ∧ w = w') := by
 go_enter Tryz.func111, Tryz.ntmps111
 go_wp2_with fail
 go_ret
 exact ⟨ret_bool (by simp []), rfl⟩
def Sg.fine (x : Sg) : Prop := (0 ≤ x.server ∧ x.server ≤ 11) ∧ (1 ≤ x.kind ∧ x.kind ≤ 5) ∧ (0 ≤ x.view ∧ x.view ≤ 2147483647) ∧ (0 ≤ x.slot ∧ x.slot ≤ 2147483647) ∧ x.digest.length ≤ 64
set_option maxRecDepth 100000 in
set_option maxHeartbeats 2000000 in
theorem statement_any (x : Sg) (w : World) (h : x.fine) : Calls Tryz.prog 77 #[.agg #[.int .i64 x.server, .int .i64 x.kind, .int .i64 x.view, .int .i64 x.slot, .string ⟨x.digest.toArray⟩, .string ⟨x.sig.toArray⟩]] w (RetErr 0 w) := by
 obtain ⟨⟨a1, a2⟩, ⟨a3, a4⟩, ⟨a5, a6⟩, ⟨a7, a8⟩, a9⟩ := h
 have H1 := hD (fun W => within34_any x.server 0 11 W a1 a2)
 have H2 := hD (fun W => within34_any x.kind 1 5 W a3 a4)
 have H3 := hD (fun W => within34_any x.view 0 2147483647 W a5 a6)
 have H4 := hD (fun W => within34_any x.slot 0 2147483647 W a7 a8)
 have a10 : ¬ (64 : Int) < (x.digest.length : Int) := by omega
 have a11 : (x.digest.length : Int) ≤ 64 := by omega
 clear a1 a2 a3 a4 a5 a6 a7 a8
 go_enter Tryz.func77, Tryz.ntmps77
 go_wp2_with fail
 refine (H1.out _).mono ?_
 rintro e w2 ⟨rfl, rfl⟩
 go_wp2_with fail
 refine (H2.out _).mono ?_
 rintro e w2 ⟨rfl, rfl⟩
 go_wp2_with fail
 refine (H3.out _).mono ?_
 rintro e w2 ⟨rfl, rfl⟩
 go_wp2_with fail
 refine (H4.out _).mono ?_
 rintro e w2 ⟨rfl, rfl⟩
 go_wp2_with fail
 go_ret
 exact ret_er rfl (below_new w _)
def keyL : List UInt8 := [115, 101, 100, 101, 114, 117, 110, 116, 32, 107, 101, 121]
set_option maxRecDepth 100000 in
set_option maxHeartbeats 2000000 in
theorem seSignature_any (x : Sg) (w : World) (hok : x.ok) (hz : x.sz ≤ 16777) : Calls Tryz.prog 78 #[.agg #[.int .i64 x.server, .int .i64 x.kind, .int .i64 x.view, .int .i64 x.slot, .string ⟨x.digest.toArray⟩, .string ⟨x.sig.toArray⟩]] w (RetTxt 16 w) := by
 have hl1 := putInts_len [x.server, x.kind, x.view, x.slot] (by simpa [List.forall_mem_cons, Sg.ok] using hok) (by simp)
 have hzz := hz
 unfold Sg.sz at hzz
 have hl2 := putStr_len x.digest (by omega)
 simp only [List.length_cons, List.length_nil] at hl1
 have hcl : (contSg x).length ≤ 100000 := by unfold contSg; rw [List.length_append]; omega
 have hkl := putStr_len keyL (by decide)
 have hk0 : keyL.length = 12 := rfl
 have HP : Hid (∀ W, Bx w (sgC x) 42 W → Calls Tryz.prog 113 #[.string ⟨#[115, 101, 100, 101, 114, 117, 110, 116, 32, 107, 101, 121]⟩] W (RetStr (putStr keyL) W)) := hD (fun W _ => putString_any keyL (by decide) W)
 have HC : Hid (∀ W, Bx w (sgC x) 42 W → Calls Tryz.prog 114 #[.agg #[.int .i64 x.server, .int .i64 x.kind, .int .i64 x.view, .int .i64 x.slot, .string ⟨x.digest.toArray⟩, .string ⟨x.sig.toArray⟩]] W (RetStr (contSg x) W)) := hD (fun W _ => seContent_any x hok (by omega) W)
 have HSh : Hid (∀ (W : World), Calls Tryz.prog 112 #[.string (ByteArray.mk (putStr keyL).toArray ++ ByteArray.mk (contSg x).toArray)] W (RetTxt 16 W)) := hD (fun W => digShort_any _ W (by rw [size_cat]; omega))
 have H0 := hD (bx_new w (sgC x) 42)
 have hq1 : ¬ (9223372036854775807 < (putStr keyL).length + (contSg x).length) := by omega
 clear hok hz hzz hl1 hl2
 go_enter Tryz.func78, Tryz.ntmps78
 go_wp2_with fail
 have HX : Hid (Bx w (sgC x) 42 (w.alloc (.cells #[.int .i64 x.server, .int .i64 x.kind, .int .i64 x.view, .int .i64 x.slot, .string ⟨x.digest.toArray⟩, .string ⟨x.sig.toArray⟩] 42)).drew) := hD (bx_drew H0.out)
 generalize hv : (w.alloc (.cells #[.int .i64 x.server, .int .i64 x.kind, .int .i64 x.view, .int .i64 x.slot, .string ⟨x.digest.toArray⟩, .string ⟨x.sig.toArray⟩] 42)).drew = v0 at HX
 have hS0 : (World.cell? v0 ⟨w.heap.size, 0, none⟩ = some (.int .i64 x.server) ∧ World.cell? v0 ⟨w.heap.size, 1, none⟩ = some (.int .i64 x.kind) ∧ World.cell? v0 ⟨w.heap.size, 2, none⟩ = some (.int .i64 x.view) ∧ World.cell? v0 ⟨w.heap.size, 3, none⟩ = some (.int .i64 x.slot) ∧ World.cell? v0 ⟨w.heap.size, 4, none⟩ = some (.string ⟨x.digest.toArray⟩) ∧ World.cell? v0 ⟨w.heap.size, 5, none⟩ = some (.string ⟨x.sig.toArray⟩)) := ⟨bx_cell HX.out 0 _ rfl, bx_cell HX.out 1 _ rfl, bx_cell HX.out 2 _ rfl, bx_cell HX.out 3 _ rfl, bx_cell HX.out 4 _ rfl, bx_cell HX.out 5 _ rfl⟩
 refine wp_region_held_drew (S := fun W => (World.cell? W ⟨w.heap.size, 0, none⟩ = some (.int .i64 x.server) ∧ World.cell? W ⟨w.heap.size, 1, none⟩ = some (.int .i64 x.kind) ∧ World.cell? W ⟨w.heap.size, 2, none⟩ = some (.int .i64 x.view) ∧ World.cell? W ⟨w.heap.size, 3, none⟩ = some (.int .i64 x.slot) ∧ World.cell? W ⟨w.heap.size, 4, none⟩ = some (.string ⟨x.digest.toArray⟩) ∧ World.cell? W ⟨w.heap.size, 5, none⟩ = some (.string ⟨x.sig.toArray⟩))) (by kernel_rfl) (by rw [hv]; exact hS0) (fun hHeld => ?_)
 rw [hv] at hHeld ⊢
 clear hv
 refine takes [1] ?_
 refine tkr 0 rfl (fun K hK => ?_)
 go_simp
 go_at_call 113
 refine (HP.out _ HX.out).mono ?_
 rintro e v1 ⟨rfl, hs⟩
 have HX := hD (bx_on HX.out hs)
 clear hs
 go_wp2_with fail
 have hS1 : (World.cell? v1 ⟨w.heap.size, 0, none⟩ = some (.int .i64 x.server) ∧ World.cell? v1 ⟨w.heap.size, 1, none⟩ = some (.int .i64 x.kind) ∧ World.cell? v1 ⟨w.heap.size, 2, none⟩ = some (.int .i64 x.view) ∧ World.cell? v1 ⟨w.heap.size, 3, none⟩ = some (.int .i64 x.slot) ∧ World.cell? v1 ⟨w.heap.size, 4, none⟩ = some (.string ⟨x.digest.toArray⟩) ∧ World.cell? v1 ⟨w.heap.size, 5, none⟩ = some (.string ⟨x.sig.toArray⟩)) := ⟨bx_cell HX.out 0 _ rfl, bx_cell HX.out 1 _ rfl, bx_cell HX.out 2 _ rfl, bx_cell HX.out 3 _ rfl, bx_cell HX.out 4 _ rfl, bx_cell HX.out 5 _ rfl⟩
 refine hK.out _ _ hS1 (fun hHeld => ?_)
 clear hK K
 try simp only [Act.put,qk1,qk2,qk3,qk4,qk5,qk6]
 refine tkr 2 rfl (fun K hK => ?_)
 go_simp
 go_at_call 114
 refine (HC.out _ HX.out).mono ?_
 rintro e v2 ⟨rfl, hs⟩
 have HX := hD (bx_on HX.out hs)
 clear hs
 go_wp2_with fail
 have hS2 : (World.cell? v2 ⟨w.heap.size, 0, none⟩ = some (.int .i64 x.server) ∧ World.cell? v2 ⟨w.heap.size, 1, none⟩ = some (.int .i64 x.kind) ∧ World.cell? v2 ⟨w.heap.size, 2, none⟩ = some (.int .i64 x.view) ∧ World.cell? v2 ⟨w.heap.size, 3, none⟩ = some (.int .i64 x.slot) ∧ World.cell? v2 ⟨w.heap.size, 4, none⟩ = some (.string ⟨x.digest.toArray⟩) ∧ World.cell? v2 ⟨w.heap.size, 5, none⟩ = some (.string ⟨x.sig.toArray⟩)) := ⟨bx_cell HX.out 0 _ rfl, bx_cell HX.out 1 _ rfl, bx_cell HX.out 2 _ rfl, bx_cell HX.out 3 _ rfl, bx_cell HX.out 4 _ rfl, bx_cell HX.out 5 _ rfl⟩
 refine hK.out _ _ hS2 (fun hHeld => ?_)
 clear hK K
 try simp only [Act.put,qk1,qk2,qk3,qk4,qk5,qk6]
 refine takes [3] ?_
 refine tkr 4 rfl (fun K hK => ?_)
 go_simp
 go_at_call 112
 refine (HSh.out _).mono ?_
 rintro e v3 ⟨⟨t, ht, rfl⟩, hs⟩
 have HX := hD (bx_on HX.out hs)
 clear hs
 go_wp2_with fail
 have hS3 : (World.cell? v3 ⟨w.heap.size, 0, none⟩ = some (.int .i64 x.server) ∧ World.cell? v3 ⟨w.heap.size, 1, none⟩ = some (.int .i64 x.kind) ∧ World.cell? v3 ⟨w.heap.size, 2, none⟩ = some (.int .i64 x.view) ∧ World.cell? v3 ⟨w.heap.size, 3, none⟩ = some (.int .i64 x.slot) ∧ World.cell? v3 ⟨w.heap.size, 4, none⟩ = some (.string ⟨x.digest.toArray⟩) ∧ World.cell? v3 ⟨w.heap.size, 5, none⟩ = some (.string ⟨x.sig.toArray⟩)) := ⟨bx_cell HX.out 0 _ rfl, bx_cell HX.out 1 _ rfl, bx_cell HX.out 2 _ rfl, bx_cell HX.out 3 _ rfl, bx_cell HX.out 4 _ rfl, bx_cell HX.out 5 _ rfl⟩
 refine hK.out _ _ hS3 (fun hHeld => ?_)
 clear hK K
 try simp only [Act.put,qk1,qk2,qk3,qk4,qk5,qk6]
 refine takes [5] ?_
 refine wpAnyH_done (by kernel_rfl) ?_ _
 go_wp2_with fail
 go_ret
 exact ⟨⟨t, ht, rfl⟩, bx_low HX.out⟩
def RetSign (x : Sg) (w : World) (e : Ending) (w' : World) : Prop := (∃ t : List UInt8, t.length = 16 ∧ e = .returned (.tuple #[.agg #[.int .i64 x.server, .int .i64 x.kind, .int .i64 x.view, .int .i64 x.slot, .string ⟨x.digest.toArray⟩, .string ⟨t.toArray⟩], .int .i64 0])) ∧ Below w.heap.size w w'
set_option maxRecDepth 100000 in
set_option maxHeartbeats 2000000 in
theorem sign_any (sv kd vw sl : Int) (d : List UInt8) (w : World) (hf : (⟨sv, kd, vw, sl, d, []⟩ : Sg).fine) (hok : (⟨sv, kd, vw, sl, d, []⟩ : Sg).ok) : Calls Tryz.prog 51 #[.int .i64 sv, .int .i64 kd, .int .i64 vw, .int .i64 sl, .string ⟨d.toArray⟩] w (RetSign ⟨sv, kd, vw, sl, d, []⟩ w) := by
 have hz : (⟨sv, kd, vw, sl, d, []⟩ : Sg).sz ≤ 16777 := by unfold Sg.sz; have h9 : d.length ≤ 64 := hf.2.2.2.2; simp; omega
 have HSt : Hid (∀ W, Calls Tryz.prog 77 #[.agg #[.int .i64 sv, .int .i64 kd, .int .i64 vw, .int .i64 sl, .string ⟨d.toArray⟩, .string ⟨#[]⟩]] W (RetErr 0 W)) := hD (fun W => statement_any ⟨sv, kd, vw, sl, d, []⟩ W hf)
 have HSi : Hid (∀ W, Calls Tryz.prog 78 #[.agg #[.int .i64 sv, .int .i64 kd, .int .i64 vw, .int .i64 sl, .string ⟨d.toArray⟩, .string ⟨#[]⟩]] W (RetTxt 16 W)) := hD (fun W => seSignature_any ⟨sv, kd, vw, sl, d, []⟩ W hok hz)
 obtain ⟨w2, hw2⟩ : ∃ w2, w2 = (w.alloc (.cells #[.int .i64 0, .int .i64 0, .int .i64 0, .int .i64 0, .string ⟨#[]⟩, .string ⟨#[]⟩] 42)).alloc (.cells #[.int .i64 sv, .int .i64 kd, .int .i64 vw, .int .i64 sl, .string ⟨d.toArray⟩, .string ⟨#[]⟩] 42) := ⟨_, rfl⟩
 have HW2 : Hid ((w.alloc (.cells #[.int .i64 0, .int .i64 0, .int .i64 0, .int .i64 0, .string ⟨#[]⟩, .string ⟨#[]⟩] 42)).alloc (.cells #[.int .i64 sv, .int .i64 kd, .int .i64 vw, .int .i64 sl, .string ⟨d.toArray⟩, .string ⟨#[]⟩] 42) = w2) := hD hw2.symm
 have HV : Hid (Vz w2 w.heap.size [.int .i64 0, .int .i64 0, .int .i64 0, .int .i64 0, .string ⟨#[]⟩, .string ⟨#[]⟩]) := hD (by rw [hw2]; exact (Vz.new w [.int .i64 0, .int .i64 0, .int .i64 0, .int .i64 0, .string ⟨#[]⟩, .string ⟨#[]⟩] 42).below (below_new _ _))
 have HX : Hid (Vz w2 (w.heap.size + 1) [.int .i64 sv, .int .i64 kd, .int .i64 vw, .int .i64 sl, .string ⟨d.toArray⟩, .string ⟨#[]⟩]) := hD (by
  rw [hw2]
  have h9 := Vz.new (w.alloc (.cells #[.int .i64 0, .int .i64 0, .int .i64 0, .int .i64 0, .string ⟨#[]⟩, .string ⟨#[]⟩] 42)) [.int .i64 sv, .int .i64 kd, .int .i64 vw, .int .i64 sl, .string ⟨d.toArray⟩, .string ⟨#[]⟩] 42
  rw [World.size_alloc] at h9
  exact h9)
 have HB : Hid (Below w.heap.size w w2) := hD (by rw [hw2]; exact bon (below_new w _) (below_new _ _))
 clear hf hok hz hw2
 go_enter Tryz.func51, Tryz.ntmps51
 go_upto_region 2 with fail
 refine world_eq HW2.out ?_
 have x0 := HX.out.cells 0 _ rfl
 have x1 := HX.out.cells 1 _ rfl
 have x2 := HX.out.cells 2 _ rfl
 have x3 := HX.out.cells 3 _ rfl
 have x4 := HX.out.cells 4 _ rfl
 have x5 := HX.out.cells 5 _ rfl
 have lx := HX.out.lt
 go_wp2_with fail
 refine (HSt.out _).mono ?_
 rintro e w3 ⟨rfl, hb⟩
 have HV := hD (HV.out.below hb)
 have HX := hD (HX.out.below hb)
 have HB := hD (bon HB.out hb)
 clear hb
 have x0 := HX.out.cells 0 _ rfl
 have x1 := HX.out.cells 1 _ rfl
 have x2 := HX.out.cells 2 _ rfl
 have x3 := HX.out.cells 3 _ rfl
 have x4 := HX.out.cells 4 _ rfl
 have x5 := HX.out.cells 5 _ rfl
 have lx := HX.out.lt
 go_wp2_with fail
 refine (HSi.out _).mono ?_
 rintro e w4 ⟨⟨t, ht, rfl⟩, hb⟩
 have HV := hD (HV.out.below hb)
 have HX := hD (HX.out.below hb)
 have HB := hD (bon HB.out hb)
 have HT := hD ht
 clear hb ht
 have x0 := HX.out.cells 0 _ rfl
 have x1 := HX.out.cells 1 _ rfl
 have x2 := HX.out.cells 2 _ rfl
 have x3 := HX.out.cells 3 _ rfl
 have x4 := HX.out.cells 4 _ rfl
 have x5 := HX.out.cells 5 _ rfl
 have z0 := HV.out.cells 0 _ rfl
 have f0 := HV.out.free 0 (by simp)
 have z1 := HV.out.cells 1 _ rfl
 have f1 := HV.out.free 1 (by simp)
 have z2 := HV.out.cells 2 _ rfl
 have f2 := HV.out.free 2 (by simp)
 have z3 := HV.out.cells 3 _ rfl
 have f3 := HV.out.free 3 (by simp)
 have z4 := HV.out.cells 4 _ rfl
 have f4 := HV.out.free 4 (by simp)
 have z5 := HV.out.cells 5 _ rfl
 have f5 := HV.out.free 5 (by simp)
 have g5 := HX.out.free 5 (by simp)
 have lx := HX.out.lt
 have lv := HV.out.lt
 have hge : w.heap.size ≤ w.heap.size + 1 := by omega
 go_wp2_with fail
 refine bodyPost_ret (v := .tuple #[.agg #[.int .i64 sv, .int .i64 kd, .int .i64 vw, .int .i64 sl, .string ⟨d.toArray⟩, .string t], .int .i64 0]) (by simp [results, Tryz.results51, go_sem, z0, z1, z2, z3, z4, z5]) rfl ⟨⟨t.data.toList, by rw [len_data]; exact HT.out, by rw [str_mk]⟩, ?_⟩
 exact ((((((HB.out.setCell (p := ⟨w.heap.size + 1, 5, none⟩) hge _).setCell (p := ⟨w.heap.size, 0, none⟩) (Nat.le_refl _) _).setCell (p := ⟨w.heap.size, 1, none⟩) (Nat.le_refl _) _).setCell (p := ⟨w.heap.size, 2, none⟩) (Nat.le_refl _) _).setCell (p := ⟨w.heap.size, 3, none⟩) (Nat.le_refl _) _).setCell (p := ⟨w.heap.size, 4, none⟩) (Nat.le_refl _) _).setCell (p := ⟨w.heap.size, 5, none⟩) (Nat.le_refl _) _
end Go.Proofs.YtikpcebhcnjkhaaGreatDoor
