/- The contracts of Same and Strings, and of IsName. -/
import Derived.Test.YtdjpnncehlmehaaDoorJ
import Derived.RegionTactic
import Derived.ChangeAlike
namespace Go.Proofs.YtdjpnncehlmehaaDoor
open Go.RowKit

theorem drewN_trans (w : World) (a b : Nat) : (w.drewN a).drewN b = w.drewN (a + b) := by
  simp [World.drewN, Nat.add_assoc]
def strC (l : List (List UInt8)) : List Value := l.map fun x => .string ⟨x.toArray⟩

set_option maxRecDepth 100000 in
set_option maxHeartbeats 2000000 in
theorem strings_any (A B : Option Addr) (c d : Nat) (xs ys : List (List UInt8)) (w : World) (ha : Rd w 1 A xs.length (strC xs)) (hb : Rd w 1 B ys.length (strC ys)) (hx : xs.length ≤ maxLen) (hy : ys.length ≤ maxLen) :
    Calls Tryd.prog 19 #[.slice A xs.length c, .slice B ys.length d] w fun e w' => e = .returned (.bool (decide (xs = ys))) ∧ ∃ n, w' = w.drewN n := by
  unfold maxLen at hx hy
  have HA := Lib.hid ha
  have HB := Lib.hid hb
  clear ha hb
  by_cases hl : xs.length = ys.length
  · have x0 : ((xs.length : Int) != (ys.length : Int)) = false := by simp [hl]
    have HL := Lib.hid hl
    clear hl
    go_enter Tryd.func19, Tryd.ntmps19
    go_wp2_with fail
    go_loopw [5] (fun i wr => ∃ k n : Nat, i = .int .i64 k ∧ k ≤ xs.length ∧ wr = w.drewN n ∧ xs.take k = ys.take k) (fun i _ => xs.length - (intOf i).toNat)
    case atStart => exact ⟨0, 0, rfl, by omega, rfl, rfl⟩
    case round =>
      obtain ⟨k, n, rfl, hk, rfl, ht⟩ := hrel
      have HT := Lib.hid ht
      clear ht
      by_cases hlt : k < xs.length
      · obtain ⟨ba, oa, rfl, hab, hac⟩ := HA.out.cells (by simp [strC]; omega)
        obtain ⟨bb, ob, rfl, hbb, hbc⟩ := HB.out.cells (by have := HL.out; simp [strC]; omega)
        have hky : k < ys.length := by have := HL.out; omega
        have ca : w.cell? ⟨ba, oa + k, none⟩ = some (.string ⟨xs[k].toArray⟩) := hac k _ (by simp [strC, hlt])
        have cb : w.cell? ⟨bb, ob + k, none⟩ = some (.string ⟨ys[k].toArray⟩) := hbc k _ (by simp [strC, hky])
        have i1 : (k : Int) < (xs.length : Int) := by omega
        have i2 : (k : Int) < (ys.length : Int) := by omega
        clear hac hbc
        by_cases he : xs[k] = ys[k]
        · have x1 : (xs[k] == ys[k]) = true := by rw [beq_iff_eq]; exact he
          have HN : Hid (xs.take (k + 1) = ys.take (k + 1)) := Lib.hid (by
            rw [List.take_succ_eq_append_getElem hlt, List.take_succ_eq_append_getElem hky, HT.out, he])
          clear he
          go_wp2_with fail
          go_quiet (fail)
          go_wp2_with fail
          go_roundw
          case rel => exact ⟨k + 1, _, by go_num, by omega, rfl, HN.out⟩
          case measure => simp [intOf]; omega
        · have x1 : (xs[k] == ys[k]) = false := by rw [beq_eq_false_iff_ne]; exact he
          have HN : Hid (decide (xs = ys) = false) := Lib.hid (decide_eq_false (fun e => he (by subst e; rfl)))
          clear he
          go_wp2_with fail
          go_quiet (fail)
          go_wp2_with fail
          go_ret
          exact ⟨ret_bool HN.out.symm, _, drewN_trans _ _ _⟩
      · have HN : Hid (decide (xs = ys) = true) := Lib.hid (decide_eq_true (by
          have h := HT.out
          rw [List.take_of_length_le (by omega), List.take_of_length_le (by have := HL.out; omega)] at h
          exact h))
        go_wp2_with fail
        go_ret
        exact ⟨ret_bool HN.out.symm, _, rfl⟩
  · have x0 : ((xs.length : Int) != (ys.length : Int)) = true := by rw [bne_iff_ne]; omega
    have HN : Hid (decide (xs = ys) = false) := Lib.hid (decide_eq_false (fun e => hl (by rw [e])))
    clear hl
    go_enter Tryd.func19, Tryd.ntmps19
    go_wp2_with fail
    go_ret
    exact ⟨ret_bool HN.out.symm, 0, rfl⟩

def isName (l : List UInt8) : Bool := !l.isEmpty && decide (l.length ≤ 24) && (match l with | [] => false | c :: _ => isLet c.toNat) && decide (run isCon l = l.length)
theorem isName_at (s : ByteArray) (h : 0 < s.size) : isName s.data.toList = (decide (s.size ≤ 24) && isLet s[0].toNat && decide (run isCon s.data.toList = s.size)) := by
  unfold isName
  rw [not_empty s h, len_data]
  have e := cons1 s h
  have : (match s.data.toList with | [] => false | c :: _ => isLet c.toNat) = isLet s[0].toNat := by rw [e]
  rw [this]; rfl
theorem isName_nil (s : ByteArray) (h : s.size = 0) : isName s.data.toList = false := by
  unfold isName; rw [is_empty s h]; rfl
set_option maxRecDepth 100000 in
set_option maxHeartbeats 2000000 in
theorem lexIsName_any (s : ByteArray) (w : World) (hs : s.size ≤ maxLen) :
    Calls Tryd.prog 21 #[.string s] w fun e w' => e = .returned (.bool (isName s.data.toList)) ∧ w = w' := by
  have HC : Hid (∀ w, Calls Tryd.prog 28 #[.string s, .func (.func 42) #[] #[]] w fun e w' => e = .returned (.int .i64 (run isCon s.data.toList)) ∧ w = w') := Lib.hid (fun w => prefix_any s 42 isCon (fun n w _ _ => continues_any n w) plain42 w hs)
  unfold maxLen at hs
  by_cases h0 : s.size = 0
  · have hq : s.toList = [] := by rw [Lib.toList_data, is_empty s h0]
    have HN := Lib.hid (isName_nil s h0)
    go_enter Tryd.func21, Tryd.ntmps21
    go_wp2_with fail
    all_goals (go_ret; exact ⟨ret_bool (by rw [HN.out]; try simp [hq]), rfl⟩)
  · have hq : s.toList.isEmpty = false := by rw [Lib.toList_data]; exact not_empty s (by omega)
    have hq2 : (!s.toList.isEmpty) = true := by rw [hq]; rfl
    have hq3 : ¬ s.toList = [] := by intro h; rw [h] at hq; simp at hq
    have h1 : 0 < s.size := by omega
    have HN := Lib.hid (isName_at s h1)
    by_cases h24 : s.size ≤ 24
    · cases hl : isLet s[0].toNat
      · have HL := Lib.hid hl
        rw [hl] at HN
        clear hl
        go_enter Tryd.func21, Tryd.ntmps21
        go_wp2_with (first | (go_at_call 41; refine (begins_any _ _).mono ?_; rw [HL.out]; rintro e w' ⟨rfl, rfl⟩) | (go_at_call 28; refine (HC.out _).mono ?_; rintro e w' ⟨rfl, rfl⟩))
        all_goals (go_ret; exact ⟨ret_bool (by rw [HN.out]; try simp), rfl⟩)
      · have HL := Lib.hid hl
        rw [hl] at HN
        clear hl
        go_enter Tryd.func21, Tryd.ntmps21
        go_wp2_with (first | (go_at_call 41; refine (begins_any _ _).mono ?_; rw [HL.out]; rintro e w' ⟨rfl, rfl⟩) | (go_at_call 28; refine (HC.out _).mono ?_; rintro e w' ⟨rfl, rfl⟩))
        all_goals (go_ret; refine ⟨ret_bool ?_, rfl⟩; rw [HN.out, Bool.eq_iff_iff]; simp; try omega)
    · go_enter Tryd.func21, Tryd.ntmps21
      go_wp2_with fail
      all_goals (go_ret; exact ⟨ret_bool (by rw [HN.out, Bool.eq_iff_iff]; simp; omega), rfl⟩)

theorem run_lt (p : Int → Bool) (s : ByteArray) (k : Nat) (hk : k < s.size) (h : p s[k].toNat = false) : run p s.data.toList ≠ s.size := by
  intro e
  have h1 : s.data.toList.takeWhile (pb p) = s.data.toList := by
    rw [← take_run, e]; exact List.take_of_length_le (by simp)
  have h2 := List.all_takeWhile (p := pb p) (l := s.data.toList)
  rw [h1] at h2
  have h3 := List.all_eq_true.1 h2 s[k] (by have : s.data.toList[k]'(by simpa using hk) ∈ s.data.toList := List.getElem_mem _
                                            exact this)
  rw [pb, h] at h3; cases h3
set_option maxRecDepth 100000 in
set_option maxHeartbeats 2000000 in
theorem refIsName_any (s : ByteArray) (w : World) (hs : s.size ≤ maxLen) :
    Calls Tryd.prog 22 #[.string s] w fun e w' => e = .returned (.bool (isName s.data.toList)) ∧ w = w' := by
  unfold maxLen at hs
  by_cases h0 : s.size = 0
  · have hq : s.toList.isEmpty = true := by rw [Lib.toList_data, is_empty s h0]; rfl
    have HN := Lib.hid (isName_nil s h0)
    go_enter Tryd.func22, Tryd.ntmps22
    go_wp2_with fail
    go_ret; exact ⟨ret_bool (by rw [HN.out]), rfl⟩
  · have hq : s.toList.isEmpty = false := by rw [Lib.toList_data]; exact not_empty s (by omega)
    have h1 : 0 < s.size := by omega
    have HN := Lib.hid (isName_at s h1)
    by_cases h24 : s.size ≤ 24
    · cases hl : isLet s[0].toNat
      · have HL := Lib.hid hl
        rw [hl] at HN
        clear hl
        go_enter Tryd.func22, Tryd.ntmps22
        go_wp2_with (go_at_call 43; refine (letter_any _ _).mono ?_; rw [HL.out]; rintro e w' ⟨rfl, rfl⟩)
        go_ret; exact ⟨ret_bool (by rw [HN.out]; simp), rfl⟩
      · have HL := Lib.hid hl
        rw [hl] at HN
        clear hl
        go_enter Tryd.func22, Tryd.ntmps22
        go_wp2_with (go_at_call 43; refine (letter_any _ _).mono ?_; rw [HL.out]; rintro e w' ⟨rfl, rfl⟩)
        go_loop [3] (fun i => ∃ k : Nat, i = .int .i64 k ∧ k ≤ s.size ∧ (∀ j, (h : j < s.size) → j < k → isCon s[j].toNat = true)) (fun i => s.size - (intOf i).toNat)
        case atStart => exact ⟨0, rfl, by omega, by intro j h h'; omega⟩
        case round =>
          obtain ⟨k, rfl, hk, hj⟩ := hrel
          have HJ := Lib.hid hj
          clear hj
          by_cases hlt : k < s.size
          · cases hx : isLet s[k].toNat
            · cases hy : isDig s[k].toNat
              · have HX := Lib.hid hx
                have HY := Lib.hid hy
                have HR := Lib.hid (run_lt isCon s k hlt (by simp [isCon, hx, hy]))
                clear hx hy
                go_wp2_with (first | (go_at_call 43; refine (letter_any _ _).mono ?_; rw [HX.out]; rintro e w' ⟨rfl, rfl⟩) | (go_at_call 44; refine (digit_any _ _).mono ?_; rw [HY.out]; rintro e w' ⟨rfl, rfl⟩))
                go_ret; exact ⟨ret_bool (by rw [HN.out, decide_eq_false HR.out]; simp), rfl⟩
              · have HX := Lib.hid hx
                have HY := Lib.hid hy
                have HC : Hid (isCon s[k].toNat = true) := Lib.hid (by simp [isCon, hx, hy])
                clear hx hy
                go_wp2_with (first | (go_at_call 43; refine (letter_any _ _).mono ?_; rw [HX.out]; rintro e w' ⟨rfl, rfl⟩) | (go_at_call 44; refine (digit_any _ _).mono ?_; rw [HY.out]; rintro e w' ⟨rfl, rfl⟩))
                go_round
                case rel => exact ⟨k + 1, by go_num, by omega, fun j h h' => by
                  rcases Nat.lt_or_ge j k with h1 | h1
                  · exact HJ.out j h h1
                  · obtain rfl : j = k := by omega
                    exact HC.out⟩
                case measure => simp [intOf]; omega
            · have HX := Lib.hid hx
              have HC : Hid (isCon s[k].toNat = true) := Lib.hid (by simp [isCon, hx])
              clear hx
              go_wp2_with (first | (go_at_call 43; refine (letter_any _ _).mono ?_; rw [HX.out]; rintro e w' ⟨rfl, rfl⟩) | (go_at_call 44; refine (digit_any _ _).mono ?_; rw [HY.out]; rintro e w' ⟨rfl, rfl⟩))
              go_round
              case rel => exact ⟨k + 1, by go_num, by omega, fun j h h' => by
                rcases Nat.lt_or_ge j k with h1 | h1
                · exact HJ.out j h h1
                · obtain rfl : j = k := by omega
                  exact HC.out⟩
              case measure => simp [intOf]; omega
          · have HR := Lib.hid (run_at isCon s.data.toList k (by simpa using hk) (fun j h h' => HJ.out j (by simpa using h) h') (fun h => by simp at h; omega))
            go_wp2_with fail
            go_ret; exact ⟨ret_bool (by rw [HN.out, HR.out]; simp; omega), rfl⟩
    · go_enter Tryd.func22, Tryd.ntmps22
      go_wp2_with fail
      go_ret; exact ⟨ret_bool (by rw [HN.out]; simp; omega), rfl⟩
theorem toksC_get (l : List Tok) (k : Nat) (hk : k < l.length) (j : Nat) (hj : j < 5) : (toksC l)[k * 5 + j]? = (tokC l[k])[j]? := by
  induction l generalizing k with
  | nil => simp at hk
  | cons t r ih =>
    have h5 : (tokC t).length = 5 := rfl
    cases k with
    | zero => simp only [toksC, List.flatMap_cons]; rw [List.getElem?_append_left (by omega)]; simp
    | succ k =>
      have := ih k (by simpa using hk)
      simp only [toksC, List.flatMap_cons] at this ⊢
      rw [List.getElem?_append_right (by omega), h5, show (k + 1) * 5 + j - 5 = k * 5 + j from by omega, this]
      rfl
theorem toks_cells {w : World} {b o : Nat} {l : List Tok} (h : ∀ j u, (toksC l)[j]? = some u → w.cell? ⟨b, o + j, none⟩ = some u) {k : Nat} (hk : k < l.length) :
    w.cell? ⟨b, o + k * 5, none⟩ = some (.int .i64 l[k].kind) ∧ w.cell? ⟨b, o + k * 5 + 1, none⟩ = some (.string ⟨l[k].text.toArray⟩) ∧ w.cell? ⟨b, o + k * 5 + 2, none⟩ = some (.int .i64 l[k].int) ∧
    w.cell? ⟨b, o + k * 5 + 3, none⟩ = some (.string ⟨l[k].str.toArray⟩) ∧ w.cell? ⟨b, o + k * 5 + 4, none⟩ = some (.int .i64 l[k].line) :=
  ⟨h (k * 5 + 0) _ ((toksC_get l k hk 0 (by omega)).trans rfl), h (k * 5 + 1) _ ((toksC_get l k hk 1 (by omega)).trans rfl), h (k * 5 + 2) _ ((toksC_get l k hk 2 (by omega)).trans rfl),
   h (k * 5 + 3) _ ((toksC_get l k hk 3 (by omega)).trans rfl), h (k * 5 + 4) _ ((toksC_get l k hk 4 (by omega)).trans rfl)⟩
def unline (t : Tok) : Tok := { t with line := 0 }
def sameB (xs ys : List Tok) (b : Bool) : Bool := if b then decide (xs = ys) else decide (xs.map unline = ys.map unline)
theorem sameB_step {xs ys : List Tok} {k : Nat} {b : Bool} (h1 : k < xs.length) (h2 : k < ys.length) (h : sameB (xs.take k) (ys.take k) b = true) (he : if b then xs[k] = ys[k] else unline xs[k] = unline ys[k]) :
    sameB (xs.take (k + 1)) (ys.take (k + 1)) b = true := by
  rw [List.take_succ_eq_append_getElem h1, List.take_succ_eq_append_getElem h2]
  cases b
  · simp only [sameB, Bool.false_eq_true, if_false, decide_eq_true_eq, List.map_append, List.map_cons, List.map_nil] at h he ⊢
    rw [h, he]
  · simp only [sameB, if_true, decide_eq_true_eq] at h he ⊢
    rw [h, he]
theorem tok_eq0 {t u : Tok} (h1 : t.kind = u.kind) (h2 : t.text = u.text) (h3 : t.int = u.int) (h4 : t.str = u.str) : if false = true then t = u else unline t = unline u := by
  simp [unline, h1, h2, h3, h4]
theorem tok_eq1 {t u : Tok} (h1 : t.kind = u.kind) (h2 : t.text = u.text) (h3 : t.int = u.int) (h4 : t.str = u.str) (h5 : t.line = u.line) : if true = true then t = u else unline t = unline u := by
  cases t; cases u; simp_all
theorem sameB_no0 {xs ys : List Tok} {k : Nat} (h1 : k < xs.length) (h2 : k < ys.length) (h : xs[k].kind = ys[k].kind → xs[k].text = ys[k].text → xs[k].int = ys[k].int → xs[k].str = ys[k].str → False) : sameB xs ys false = false := by
  simp only [sameB, Bool.false_eq_true, if_false]
  refine decide_eq_false (fun e => ?_)
  have h3 : (xs.map unline)[k]? = (ys.map unline)[k]? := by rw [e]
  rw [List.getElem?_map, List.getElem?_map, List.getElem?_eq_getElem h1, List.getElem?_eq_getElem h2] at h3
  simp only [Option.map_some, Option.some.injEq] at h3
  exact h (show (unline xs[k]).kind = (unline ys[k]).kind by rw [h3]) (show (unline xs[k]).text = (unline ys[k]).text by rw [h3]) (show (unline xs[k]).int = (unline ys[k]).int by rw [h3]) (show (unline xs[k]).str = (unline ys[k]).str by rw [h3])
theorem sameB_no1 {xs ys : List Tok} {k : Nat} (h1 : k < xs.length) (h2 : k < ys.length) (h : xs[k].kind = ys[k].kind → xs[k].text = ys[k].text → xs[k].int = ys[k].int → xs[k].str = ys[k].str → xs[k].line = ys[k].line → False) : sameB xs ys true = false := by
  simp only [sameB, if_true]
  refine decide_eq_false (fun e => ?_)
  subst e
  exact h rfl rfl rfl rfl rfl
set_option maxRecDepth 100000 in
set_option maxHeartbeats 2000000 in
theorem same_any (A B : Option Addr) (c d : Nat) (xs ys : List Tok) (b : Bool) (w : World) (ha : Rd w 5 A xs.length (toksC xs)) (hb : Rd w 5 B ys.length (toksC ys)) (hx : xs.length ≤ 1000000) (hy : ys.length ≤ 1000000) :
    Calls Tryd.prog 13 #[.slice A xs.length c, .slice B ys.length d, .bool b] w fun e w' => e = .returned (.bool (sameB xs ys b)) ∧ Below w.heap.size w w' := by
  have HA := Lib.hid ha
  have HB := Lib.hid hb
  clear ha hb
  by_cases hl : xs.length = ys.length
  · have x0 : ((xs.length : Int) != (ys.length : Int)) = false := by simp [hl]
    have HL := Lib.hid hl
    clear hl
    go_enter Tryd.func13, Tryd.ntmps13
    go_wp2_with fail
    go_loopw [7] (fun i wr => ∃ k : Nat, i = .int .i64 k ∧ k ≤ xs.length ∧ Below w.heap.size w wr ∧ sameB (xs.take k) (ys.take k) b = true) (fun i _ => xs.length - (intOf i).toNat)
    case atStart => exact ⟨0, rfl, by omega, Below.refl _ _, by cases b <;> rfl⟩
    case round =>
      obtain ⟨k, rfl, hk, hbl, ht⟩ := hrel
      have HT := Lib.hid ht
      have HBL := Lib.hid hbl
      clear ht hbl
      by_cases hlt : k < xs.length
      · have HA2 := Lib.hid (HA.out.below HBL.out)
        have HB2 := Lib.hid (HB.out.below HBL.out)
        have hky : k < ys.length := by have := HL.out; omega
        obtain ⟨ba, oa, rfl, hab, hac⟩ := HA2.out.cells (by rw [toksC_len]; omega)
        obtain ⟨bb, ob, rfl, hbb, hbc⟩ := HB2.out.cells (by rw [toksC_len]; omega)
        obtain ⟨a0, a1, a2, a3, a4⟩ := toks_cells hac hlt
        obtain ⟨b0, b1, b2, b3, b4⟩ := toks_cells hbc hky
        clear hac hbc
        have i0 : (0 : Int) ≤ (k : Int) := by omega
        have i1 : (k : Int) < (xs.length : Int) := by omega
        have i2 : (k : Int) < (ys.length : Int) := by omega
        go_wp2_with fail
        go_region
        all_goals
          cases b
          · go_wp2_with fail
            all_goals first
              | (go_roundw
                 case rel => exact ⟨k + 1, by go_num, by omega, (by repeat' (first | exact HBL.out | apply Below.drew | apply below_drewN | apply Below.alloc | (have h9 := HBL.out.size; simp; omega) | exact HBL.out.size)), sameB_step hlt hky HT.out (tok_eq0 ‹_› ‹_› ‹_› ‹_›)⟩
                 case measure => simp [intOf]; omega)
              | (go_ret
                 refine ⟨ret_bool ?_, (by repeat' (first | exact HBL.out | apply Below.drew | apply below_drewN | apply Below.alloc | (have h9 := HBL.out.size; simp; omega) | exact HBL.out.size))⟩
                 rw [sameB_no0 hlt hky (fun e1 e2 e3 e4 => by simp_all)])
          · go_wp2_with fail
            all_goals first
              | (go_roundw
                 case rel => exact ⟨k + 1, by go_num, by omega, (by repeat' (first | exact HBL.out | apply Below.drew | apply below_drewN | apply Below.alloc | (have h9 := HBL.out.size; simp; omega) | exact HBL.out.size)), sameB_step hlt hky HT.out (tok_eq1 ‹_› ‹_› ‹_› ‹_› ‹_›)⟩
                 case measure => simp [intOf]; omega)
              | (go_ret
                 refine ⟨ret_bool ?_, (by repeat' (first | exact HBL.out | apply Below.drew | apply below_drewN | apply Below.alloc | (have h9 := HBL.out.size; simp; omega) | exact HBL.out.size))⟩
                 rw [sameB_no1 hlt hky (fun e1 e2 e3 e4 e5 => by simp_all)])
      · have HN : Hid (sameB xs ys b = true) := Lib.hid (by
          have h := HT.out
          rw [List.take_of_length_le (by omega), List.take_of_length_le (by have := HL.out; omega)] at h
          exact h)
        go_wp2_with fail
        go_ret
        exact ⟨ret_bool HN.out.symm, HBL.out⟩
  · have x0 : ((xs.length : Int) != (ys.length : Int)) = true := by rw [bne_iff_ne]; omega
    have HN : Hid (sameB xs ys b = false) := Lib.hid (by
      unfold sameB
      split
      · exact decide_eq_false (fun e => hl (by rw [e]))
      · exact decide_eq_false (fun e => hl (by simpa using congrArg List.length e)))
    clear hl
    go_enter Tryd.func13, Tryd.ntmps13
    go_wp2_with fail
    go_ret
    exact ⟨ret_bool HN.out.symm, Below.refl _ _⟩
end Go.Proofs.YtdjpnncehlmehaaDoor
