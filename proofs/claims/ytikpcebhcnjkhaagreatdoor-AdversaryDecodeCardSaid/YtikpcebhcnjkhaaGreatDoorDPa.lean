/- The members of a set, exactly. -/
import Derived.Shelf.SlicesE.DeleteFunc
import Derived.Test.YtikpcebhcnjkhaaGreatDoorDPl
import Derived.Test.YtikpcebhcnjkhaaGreatDoorDA6
namespace Go.Proofs.YtikpcebhcnjkhaaGreatDoor
open Go.RowKit
theorem low_form : ∀ s : Nat, s ≠ 0 → ∃ j k, s = 2 ^ (j + 1) * k + 2 ^ j := by
 intro s
 induction s using Nat.strongRecOn with
 | ind s ih =>
  intro h0
  by_cases h1 : s % 2 = 1
  · exact ⟨0, s / 2, by simp; omega⟩
  · obtain ⟨j, k, h⟩ := ih (s / 2) (by omega) (by omega)
    refine ⟨j + 1, k, ?_⟩
    have h2 : s = 2 * (s / 2) := by omega
    rw [h2, h, Nat.mul_add, ← Nat.mul_assoc]
    simp only [Nat.pow_succ]
    rw [Nat.mul_comm 2 (2 ^ j * 2), Nat.mul_comm 2 (2 ^ j)]
section
variable {s j k : Nat}
theorem low_at (h : s = 2 ^ (j + 1) * k + 2 ^ j) (i : Nat) : s.testBit i = if i < j then false else if i = j then true else k.testBit (i - (j + 1)) := by
 rw [h, Nat.testBit_two_pow_mul_add k (Nat.pow_lt_pow_right (by decide) (Nat.lt_succ_self j)) i, Nat.testBit_two_pow]
 by_cases h1 : i < j
 · rw [if_pos (by omega), if_pos h1, decide_eq_false (by omega)]
 · by_cases h2 : i = j
   · rw [if_pos (by omega), if_neg h1, if_pos h2, decide_eq_true h2.symm]
   · rw [if_neg (by omega), if_neg h1, if_neg h2]
theorem low_pred (h : s = 2 ^ (j + 1) * k + 2 ^ j) (i : Nat) : (s - 1).testBit i = if i < j then true else if i = j then false else k.testBit (i - (j + 1)) := by
 have hp := Nat.two_pow_pos j
 have h9 : 2 ^ j ≤ 2 ^ (j + 1) := Nat.pow_le_pow_right (by decide) (Nat.le_succ j)
 have e : s - 1 = 2 ^ (j + 1) * k + (2 ^ j - 1) := by omega
 rw [e, Nat.testBit_two_pow_mul_add k (by omega) i, Nat.testBit_two_pow_sub_one]
 by_cases h1 : i < j
 · rw [if_pos (by omega), if_pos h1, decide_eq_true h1]
 · by_cases h2 : i = j
   · rw [if_pos (by omega), if_neg h1, if_pos h2, decide_eq_false h1]
   · rw [if_neg (by omega), if_neg h1, if_neg h2]
theorem low_lt (h : s = 2 ^ (j + 1) * k + 2 ^ j) (hs : s < 65536) : j < 16 := by
 apply Nat.lt_of_not_le
 intro hj
 have h1 : 2 ^ 16 ≤ 2 ^ j := Nat.pow_le_pow_right (by decide) hj
 have h2 : (2 : Nat) ^ 16 = 65536 := by decide
 omega
theorem low_one (h : s = 2 ^ (j + 1) * k + 2 ^ j) (hs : s < 65536) : s &&& (65536 - s) = 2 ^ j := by
 have hp := Nat.two_pow_pos j
 have hj := low_lt h hs
 have h0 : 0 < s := by omega
 apply Nat.eq_of_testBit_eq
 intro i
 have e : 65536 - s = 2 ^ 16 - ((s - 1) + 1) := by rw [show s - 1 + 1 = s from by omega]
 rw [Nat.testBit_and, e, Nat.testBit_two_pow_sub_succ (by omega) i, low_at h, low_pred h, Nat.testBit_two_pow]
 by_cases h1 : i < j
 · rw [if_pos h1, if_pos h1, decide_eq_false (by omega : ¬ j = i)]; rfl
 · by_cases h2 : i = j
   · subst h2; simp; exact hj
   · rw [if_neg h1, if_neg h2, if_neg h1, if_neg h2, decide_eq_false (by omega : ¬ j = i)]
     cases k.testBit (i - (j + 1)) <;> simp
theorem low_rest (h : s = 2 ^ (j + 1) * k + 2 ^ j) (i : Nat) : (s &&& (s - 1)).testBit i = if i ≤ j then false else s.testBit i := by
 rw [Nat.testBit_and, low_at h, low_pred h]
 by_cases h1 : i < j
 · have h2 : i ≤ j := by omega
   rw [if_pos h1, if_pos h1, if_pos h2]; rfl
 · by_cases h2 : i = j
   · subst h2; simp
   · rw [if_neg h1, if_neg h2, if_neg h1, if_neg h2, if_neg (by omega), Bool.and_self]
theorem memTo_none {s n : Nat} (h : ∀ i, i < n → s.testBit i = false) : memTo s n = [] := by
 unfold memTo
 rw [List.filter_eq_nil_iff]
 intro x hx
 rw [h x (by simpa using hx)]
 decide
theorem memTo_low (h : s = 2 ^ (j + 1) * k + 2 ^ j) : ∀ n, j < n → memTo s n = j :: memTo (s &&& (s - 1)) n
 | 0, hn => by omega
 | n + 1, hn => by
  rw [memTo_succ, memTo_succ]
  by_cases h1 : j = n
  · subst h1
    rw [memTo_none (fun i hi => by rw [low_at h, if_pos hi]), memTo_none (fun i hi => by rw [low_rest h, if_pos (by omega)]), low_at h, low_rest h]
    simp
  · have h2 : ¬ n ≤ j := by omega
    rw [memTo_low h n (by omega), low_rest h n, if_neg h2]
    rfl
end
def tabL : List Int := [0, 1, 28, 2, 29, 14, 24, 3, 30, 22, 20, 15, 25, 17, 4, 8, 31, 27, 13, 23, 21, 19, 16, 7, 26, 12, 18, 6, 11, 5, 10, 9]
def TbE (w : World) : Prop := ∀ j, j < 32 → w.cell? ⟨0, j, none⟩ = some (.int .u8 (tabL.getD j 0))
theorem TbE.below {w w' : World} (h : TbE w) (hb : Below w.heap.size w w') : TbE w' := fun j hj => (hb.cell (p := ⟨0, j, none⟩) (Lib.lt_of_cell (h j hj))).trans (h j hj)
theorem TbE.tz {w : World} (h : TbE w) : Tz w := h 3 (by decide)
theorem tab_at : ∀ j : Fin 16, (((2 ^ j.val : Nat) : Int) % 4294967296 * 125613361 % 4294967296 / 134217728).toNat < 32 ∧ tabL.getD ((((2 ^ j.val : Nat) : Int) % 4294967296 * 125613361 % 4294967296 / 134217728).toNat) 0 = (j.val : Int) := by decide
theorem neg_u16 (s : Nat) (h0 : s ≠ 0) (hs : s < 65536) : IntKind.u16.wrap (-(s : Int)) = ((65536 - s : Nat) : Int) := by
 simp only [IntKind.wrap, IntKind.signed, IntKind.bits]
 simp
 omega
set_option maxRecDepth 100000 in
set_option maxHeartbeats 2000000 in
theorem tzx_any (s j k : Nat) (w : World) (hf : s = 2 ^ (j + 1) * k + 2 ^ j) (hs : s < 65536) (ht : TbE w) : Calls Tryz.prog 65 #[.int .u16 (s : Int)] w (Same (.int .i64 (j : Int)) w) := by
 have hp := Nat.two_pow_pos j
 have hj := low_lt hf hs
 have h0 : s ≠ 0 := by omega
 have e1 : ((s : Int) == 0) = false := by rw [beq_eq_false_iff_ne]; omega
 have hb : bits .and .u16 (s : Int) (IntKind.u16.wrap (-(s : Int))) = ((2 ^ j : Nat) : Int) := by
  rw [neg_u16 s h0 hs, u16_and_nat s (65536 - s) hs (by omega), low_one hf hs]
 have hta := tab_at ⟨j, hj⟩
 have hc := ht _ hta.1
 rw [hta.2] at hc
 have lc := Lib.lt_of_cell hc
 have hj0 : (0 : Int) ≤ (j : Int) := by omega
 have hj1 : (j : Int) < 16 := by omega
 have hi0 : (0 : Int) ≤ ((2 ^ j : Nat) : Int) % 4294967296 * 125613361 % 4294967296 / 134217728 := by omega
 have hi1 : ((2 ^ j : Nat) : Int) % 4294967296 * 125613361 % 4294967296 / 134217728 < 32 := by omega
 generalize ((2 ^ j : Nat) : Int) = q at hb hc hi0 hi1
 clear hf h0 hta ht hp
 go_enter Tryz.func65, Tryz.ntmps65
 go_wp2_with fail
 go_ret
 exact ⟨ret_int (by first | rfl | simp), rfl⟩
def RetRow (l : List Nat) (w : World) (e : Ending) (w' : World) : Prop := ∃ A c, e = .returned (.slice A l.length c) ∧ w'.ownsRow w.heap.size 3 1 (.slice A l.length c) l.length (natC l) ∧ Below w.heap.size w w'
set_option maxRecDepth 100000 in
set_option maxHeartbeats 2000000 in
theorem membersX_any (s : Nat) (w : World) (hs : s < 65536) (ht : TbE w) : Calls Tryz.prog 34 #[.int .u16 (s : Int)] w (RetRow (memTo s 16) w) := by
 have HT := hD ht
 clear ht
 go_enter Tryz.func34, Tryz.ntmps34
 go_wp2_with fail
 go_loopw [0, 3] (fun v o wr => ∃ (q : Nat) (done : List Nat), v = .int .u16 (q : Int) ∧ q < 65536 ∧ done ++ memTo q 16 = memTo s 16 ∧ wr.ownsRow w.heap.size 3 1 o done.length (natC done) ∧ Below w.heap.size w wr) (fun v _ _ => (intOf v).toNat)
 case atStart => exact ⟨s, [], rfl, hs, rfl, World.ownsRow_nil _ _ _ _, Below.refl _ _⟩
 case round =>
  obtain ⟨q, done, rfl, hq, hd, how, hbl⟩ := hrel
  obtain ⟨A, c, rfl⟩ := ownsRow_form how
  have HO := hD how
  have HB := hD hbl
  have HD := hD hd
  have hln : done.length ≤ 16 := by
   have h1 := memTo_len s 16
   rw [← hd, List.length_append] at h1
   omega
  clear how hbl hd
  by_cases h0 : q = 0
  · subst h0
    go_wp2_with fail
    go_ret
    have he : done = memTo s 16 := by
     rw [← HD.out, memTo_none (fun i _ => Nat.zero_testBit i), List.append_nil]
    subst he
    exact ⟨A, c, rfl, HO.out, HB.out⟩
  · obtain ⟨j, k, hf⟩ := low_form q h0
    have hj := low_lt hf hq
    have HM := hD (memTo_low hf 16 hj)
    have HT2 := hD (tzx_any q j k wr hf hq (HT.out.below HB.out))
    obtain ⟨q2, hq2⟩ : ∃ q2, q2 = q &&& (q - 1) := ⟨_, rfl⟩
    have hlt : q2 < q := by rw [hq2]; exact Nat.lt_of_le_of_lt Nat.and_le_right (by omega)
    have hw1 : IntKind.u16.wrap ((q : Int) - 1) = ((q - 1 : Nat) : Int) := by
     simp only [IntKind.wrap, IntKind.signed, IntKind.bits]
     simp
     omega
    have hb : bits .and .u16 (q : Int) ((q - 1 : Nat) : Int) = (q2 : Int) := by rw [u16_and_nat q (q - 1) hq (by omega), hq2]
    rw [← hq2] at HM
    have e1 : ((q : Int) != 0) = true := by rw [bne_iff_ne]; omega
    clear hf hq2
    go_wp2_with fail
    refine HT2.out.mono ?_
    rintro e w2 ⟨rfl, rfl⟩
    go_wp2_with (at_builtin; refine wpList_apr elemI rfl _ _ rfl w.heap.size rfl (HO.out.alloc _) rfl (rd_new wr 1 1 [.int .i64 (j : Int)] _ (by rfl)) (by simp [Value.oneCell']) (by omega) (by omega) (by have := HB.out.size; simp; omega) ?_)
    intro A' c' w4 hown hb4
    have HO4 : Hid (w4.ownsRow w.heap.size 3 1 (.slice A' (done ++ [j]).length c') (done ++ [j]).length (natC (done ++ [j]))) := hD (by simpa [natC] using hown)
    have HB4 : Hid (Below w.heap.size w w4) := hD ((HB.out.alloc HB.out.size _).trans hb4)
    have HD4 : Hid ((done ++ [j]) ++ memTo q2 16 = memTo s 16) := hD (by rw [List.append_assoc, List.singleton_append, ← HM.out]; exact HD.out)
    clear hown hb4
    go_wp2_with fail
    go_roundw
    case rel => exact ⟨q2, done ++ [j], by first | rfl | simp, by omega, HD4.out, by have h9 := HO4.out; simpa using h9, HB4.out⟩
    case measure => simp [intOf]; omega
open Go.RowKit Go.Shelf
def renDel : Go.Shelf.Ren := ⟨fun | 6 => 64 | 10 => 33 | n => n, fun | 22 => 33 | 23 => 3 | 25 => 89 | 4 => 4 | 3 => 3 | 0 => 0 | n => n, fun n => n⟩
theorem laysDel : SlLaysH.n10 Tryz.prog renDel := {
 mixed := by kernel_rfl
 f6 := ⟨ "slices.IndexFunc[[]int,int]", by decide, Tryz.func64.trans (congrArg some (by kernel_rfl))⟩
 f10 := ⟨ "slices.DeleteFunc[[]int,int]", by decide, Tryz.func33.trans (congrArg some (by kernel_rfl))⟩
 t0 := Tryz.underlying0
 a0 := Tryz.isAgg0
 z0 := Tryz.sizeOf0
 v0 := Tryz.zeroValue0
 t3 := Tryz.underlying3
 a3 := Tryz.isAgg3
 z3 := Tryz.sizeOf3
 v3 := Tryz.zeroValue3
 t4 := Tryz.underlying4
 a4 := Tryz.isAgg4
 z4 := Tryz.sizeOf4
 v4 := Tryz.zeroValue4
 t22 := Tryz.underlying33
 a22 := Tryz.isAgg33
 z22 := Tryz.sizeOf33
 v22 := Tryz.zeroValue33
 a23 := Tryz.isAgg3
 z23 := Tryz.sizeOf3
 t25 := Tryz.underlying89
 a25 := Tryz.isAgg89
 z25 := Tryz.sizeOf89
 v25 := Tryz.zeroValue89 }
def encN (n : Nat) : Value := .int .i64 (n : Int)
theorem one_encN : OneCell encN := fun _ => rfl
theorem memTo_cut (s n : Nat) : ∀ m, n ≤ m → (memTo s m).filter (fun x => !decide (n ≤ x)) = memTo s n
 | 0, h => by
  obtain rfl : n = 0 := by omega
  rfl
 | m + 1, h => by
  by_cases h1 : n = m + 1
  · subst h1
    rw [List.filter_eq_self]
    intro x hx
    have : x < m + 1 := by
     have := (List.mem_filter.1 hx).1
     simpa using this
    simp; omega
  · rw [memTo_succ, List.filter_append, memTo_cut s n m (by omega)]
    split
    · have h2 : n ≤ m := by omega
      simp [h2]
    · simp
theorem grownBy_put {w : World} {g q : Nat} (d : Array Nat) : w.grownBy (Go.Sort.putRow encN (Go.Sort.ahead w q) g 0 d) (some g) := by
 refine ⟨rfl, rfl, rfl, by simp [Go.Sort.ahead], fun k hk hne => ?_⟩
 have : g ≠ k := fun e => hne (by rw [e])
 simp [Go.Sort.putRow, Go.Sort.mapBlock, Go.Sort.ahead, Array.getElem?_modify, this]
theorem dec1_gives (b : Nat) (A : Option Addr) (n c : Nat) (W : World) (x : Nat) (h : W.cell? ⟨b, 0, none⟩ = some (.slice A n c)) : FnGives Tryz.prog 35 #[.pointer (some ⟨b, 0, none⟩)] #[encN x] (.bool (decide (n ≤ x))) W := by
 have h9 := dec1_any (x : Int) b A n c W h
 refine h9.mono ?_
 rintro e w' ⟨rfl, rfl⟩
 exact ⟨by congr 2; rw [Bool.eq_iff_iff]; simp, 0, rfl⟩
def RetDel (l : List Nat) (w : World) (v : Value) (e : Ending) (w' : World) : Prop := ∃ A c, e = .returned (.slice A l.length c) ∧ Rd w' 1 A l.length (natC l) ∧ w.grownBy w' v.ownBlock ∧ ∀ b o, A = some ⟨b, o, none⟩ → v.ownBlock = some b
theorem natC_at (l : List Nat) (j : Nat) (h : j < l.length) : (natC l)[j]? = some (encN l[j]) := by simp [natC, h, encN]
set_option maxRecDepth 100000 in
theorem del_row (base g c0 b : Nat) (A : Option Addr) (n c : Nat) (l : List Nat) (w : World) (hown : w.ownsRow base 3 1 (.slice (some ⟨g, 0, none⟩) l.length c0) l.length (natC l)) (hb : w.cell? ⟨b, 0, none⟩ = some (.slice A n c)) (hne : b ≠ g) (hn : l.length ≤ 1000) :
    Calls Tryz.prog 33 #[.slice (some ⟨g, 0, none⟩) l.length c0, .func (.func 35) #[] #[.pointer (some ⟨b, 0, none⟩)]] w (RetDel (l.filter fun x => !decide (n ≤ x)) w (.slice (some ⟨g, 0, none⟩) l.length c0)) := by
 have hcell : ∀ j (h : j < l.length), w.cell? ⟨g, 0 + j, none⟩ = some (encN l[j]) := fun j h => by
  rw [Nat.zero_add, hown.cellAt j (by omega)]
  exact natC_at l j h
 have hH : Go.Sort.Holds encN w g 0 l.toArray := fun j hj => by
  have hj' : j < l.length := by simpa using hj
  rw [hcell j hj', getElem!_pos l.toArray j hj]
  refine ⟨by simp, ?_⟩
  rw [Nat.zero_add]
  exact hown.frozenAt j
 have hcap : l.length ≤ c0 := by
  rcases hown.2 with ⟨h, _⟩ | ⟨g', cap, cur, hv, _, _, h, _⟩
  · cases h
  · injection hv with _ _ h3
    omega
 have hblt : b < w.heap.size := Lib.lt_of_cell hb
 have hDd := AnyE.slices_DeleteFunc laysDel encN one_encN (fun x => decide (n ≤ x)) 35 #[.pointer (some ⟨b, 0, none⟩)] (enters_of Tryz.func35 (by kernel_rfl) rfl) 0 (fun w => Tryz.zeroValue3 w) g 0 c0 l.toArray w
  (fun W x h => dec1_gives b A n c W x ((h.cell (p := ⟨b, 0, none⟩) hblt).trans hb))
  (fun m os dk x hs => dec1_gives b A n c _ x (by
   unfold sortWorld
   rw [Go.Sort.cell?_grow _ _ _ (by simpa [Go.Sort.ahead] using hblt), Go.Sort.cell?_putRow_other _ _ _ _ _ _ (.inl hne)]
   exact hb)) hH (by simp; omega) (by simpa using hcap)
 simp only [List.size_toArray] at hDd
 refine hDd.mono ?_
 rintro e w' ⟨rfl, q, rfl⟩
 obtain ⟨f, hf⟩ : ∃ f, f = l.filter fun x => !decide (n ≤ x) := ⟨_, rfl⟩
 have hfl : f.length ≤ l.length := by rw [hf]; exact List.length_filter_le _ _
 rw [← hf]
 refine ⟨some ⟨g, 0, none⟩, c0, rfl, ⟨by rw [natC_len]; omega, fun h0 => ⟨g, 0, rfl, ?_, fun j u hu => ?_⟩⟩, grownBy_put _, fun b o h => by cases h; rfl⟩
 · have h9 := hown.lt g rfl
   simp [Go.Sort.ahead]
   exact h9.2
 · have hj : j < f.length := by
     have := (List.getElem?_eq_some_iff.1 hu).1
     rwa [natC_len] at this
   have hA : Go.Sort.Holds encN (Go.Sort.ahead w q) g 0 l.toArray := hH
   have hP := Go.Sort.holds_putRow encN (Go.Sort.ahead w q) g 0 l.toArray ((f ++ List.replicate (l.length - f.length) 0).toArray) hA (by simp; omega)
   have h2 := (hP j (by simp; omega)).1
   rw [h2, getElem!_pos _ j (by simp; omega)]
   rw [natC_at f j hj] at hu
   rw [← hu]
   simp [List.getElem_append_left hj]
theorem del_mem (base b : Nat) (A0 : Option Addr) (c0 : Nat) (A : Option Addr) (n c : Nat) (l : List Nat) (w : World) (hown : w.ownsRow base 3 1 (.slice A0 l.length c0) l.length (natC l)) (hb : w.cell? ⟨b, 0, none⟩ = some (.slice A n c)) (hne : b < base) (hn : l.length ≤ 1000) :
    Calls Tryz.prog 33 #[.slice A0 l.length c0, .func (.func 35) #[] #[.pointer (some ⟨b, 0, none⟩)]] w (RetDel (l.filter fun x => !decide (n ≤ x)) w (.slice A0 l.length c0)) := by
 by_cases h0 : 0 < l.length
 · obtain ⟨g, rfl⟩ := own_two hown h0
   exact del_row base g c0 b A n c l w hown hb (by have := (hown.lt g rfl).1; omega) hn
 · obtain rfl : l = [] := List.eq_nil_of_length_eq_zero (by omega)
   refine (del_any A0 c0 b A n c [] w (Rd.nil _ _ _) hb (by decide) (by simp)).mono ?_
   rintro e w' ⟨rfl, rfl⟩
   exact ⟨A0, c0, rfl, Rd.nil _ _ _, grown_below (Below.refl _ _) _, fun b o h => by subst h; rfl⟩
end Go.Proofs.YtikpcebhcnjkhaaGreatDoor
