/- Contracts of the functions that read one token. -/
import Derived.Test.YtdjpnncehlmehaaDoorD
namespace Go.Proofs.YtdjpnncehlmehaaDoor
open Go.RowKit

theorem tok1_cons (c : UInt8) (r : List UInt8) : tok1 (c :: r) =
    if isLet c.toNat then if 24 < run isCon (c :: r) then none else some (⟨1, (c :: r).takeWhile (pb isCon), 0, [], 0⟩, run isCon (c :: r))
    else if isDig c.toNat then (intTok (c :: r)).map fun x => (⟨2, [], x.1, [], 0⟩, x.2)
    else if (c.toNat : Int) = 34 then if (litR (c :: r)).2 = 0 then none else some (⟨3, [], 0, (litR (c :: r)).1, 0⟩, (litR (c :: r)).2.toNat)
    else if isSym c.toNat then some (⟨4, [c], 0, [], 0⟩, 1)
    else none := rfl
theorem tok1_at (s : ByteArray) (h : 0 < s.size) : tok1 s.data.toList =
    if isLet s[0].toNat then if 24 < run isCon s.data.toList then none else some (⟨1, s.data.toList.takeWhile (pb isCon), 0, [], 0⟩, run isCon s.data.toList)
    else if isDig s[0].toNat then (intTok s.data.toList).map fun x => (⟨2, [], x.1, [], 0⟩, x.2)
    else if (s[0].toNat : Int) = 34 then if (litR s.data.toList).2 = 0 then none else some (⟨3, [], 0, (litR s.data.toList).1, 0⟩, (litR s.data.toList).2.toNat)
    else if isSym s[0].toNat then some (⟨4, [s[0]], 0, [], 0⟩, 1)
    else none := by
  have := tok1_cons s[0] (s.data.toList.drop 1)
  rw [← cons1 s h] at this
  exact this
def tokA (t : Tok) : Array Value := #[.int .i64 t.kind, .string ⟨t.text.toArray⟩, .int .i64 t.int, .string ⟨t.str.toArray⟩, .int .i64 t.line]
/-- what a reading of one token gives: n = 0, or the token and its length -/
def TokOk (l : List UInt8) (t : Tok) (n : Int) : Prop := match tok1 l with | none => n = 0 | some (u, m) => t = u ∧ n = m ∧ 1 ≤ m ∧ m ≤ l.length
def RetTok (l : List UInt8) (w : World) (e : Ending) (w' : World) : Prop := ∃ t n, e = .returned (.tuple #[.agg (tokA t), .int .i64 n]) ∧ TokOk l t n ∧ 0 ≤ n ∧ Below w.heap.size w w'
theorem ret_tok {l : List UInt8} {w w' : World} (t : Tok) (n : Int) (h : TokOk l t n) (h0 : 0 ≤ n) (hb : Below w.heap.size w w') : RetTok l w (.returned (.tuple #[.agg (tokA t), .int .i64 n])) w' :=
  ⟨t, n, rfl, h, h0, hb⟩
theorem tokOk_none {l : List UInt8} {t : Tok} (h : tok1 l = none) : TokOk l t 0 := by unfold TokOk; rw [h]
theorem tokOk_some {l : List UInt8} {t : Tok} {m : Nat} (h : tok1 l = some (t, m)) (h1 : 1 ≤ m) (h2 : m ≤ l.length) : TokOk l t m := by unfold TokOk; rw [h]; exact ⟨rfl, rfl, h1, h2⟩
theorem ext0 (s : ByteArray) (k : Nat) : s.extract 0 k = ⟨(s.data.toList.take k).toArray⟩ := by
  apply ByteArray.ext
  apply Array.toList_inj.1
  rw [Lib.extract_data]; simp
theorem run_pos (p : Int → Bool) (s : ByteArray) (h : 0 < s.size) (hp : p s[0].toNat = true) : 1 ≤ run p s.data.toList :=
  run_ge p _ 1 (by simp; omega) (fun j hj h' => by obtain rfl : j = 0 := by omega
                                                   exact hp)
theorem letter_con (n : Int) (h : isLet n = true) : isCon n = true := by simp [isCon, h]

theorem isDig_let (n : Int) (h : isDig n = true) : isLet n = false := by
  simp [isDig, isLet] at h ⊢; omega
theorem q_let (n : Int) (h : n = 34) : isLet n = false ∧ isDig n = false := by subst h; decide

set_option maxRecDepth 100000 in
set_option maxHeartbeats 1000000 in
theorem next_letter (s : ByteArray) (w : World) (hs : s.size ≤ maxLen) (h0 : 0 < s.size) (hl : isLet s[0].toNat = true) :
    Calls Tryd.prog 32 #[.string s] w (RetTok s.data.toList w) := by
  have HC : Hid (∀ w, Calls Tryd.prog 28 #[.string s, .func (.func 42) #[] #[]] w fun e w' => e = .returned (.int .i64 (run isCon s.data.toList)) ∧ w = w') := Lib.hid (fun w => prefix_any s 42 isCon (fun n w _ _ => continues_any n w) plain42 w hs)
  unfold maxLen at hs
  have HT := Lib.hid (tok1_at s h0)
  have HL := Lib.hid hl
  have hle := run_le isCon s.data.toList
  have hlen : s.data.toList.length = s.size := by simp
  rw [hlen] at hle
  have HP := Lib.hid (run_pos isCon s h0 (letter_con _ hl))
  have HE := Lib.hid (ext0 s (run isCon s.data.toList))
  have HK := Lib.hid (take_run isCon s.data.toList)
  clear hl
  generalize run isCon s.data.toList = k at *
  by_cases h24 : 24 < k
  · have HN : Hid (tok1 s.data.toList = none) := Lib.hid (by rw [HT.out, if_pos HL.out, if_pos h24])
    clear HT hlen
    go_enter Tryd.func32, Tryd.ntmps32
    go_wp2_with fail
    refine (begins_any _ _).mono ?_
    rw [HL.out]
    rintro e w1 ⟨rfl, rfl⟩
    go_wp2_with fail
    refine (HC.out _).mono ?_
    rintro e w1 ⟨rfl, rfl⟩
    go_wp2_with fail
    exact bodyPost_ret (v := .tuple #[.agg (tokA tok0), .int .i64 0]) (by simp [results, Tryd.results32, go_sem, tokA, tok0]) rfl (ret_tok _ _ (tokOk_none HN.out) (by omega) (((Below.refl _ _).alloc (Nat.le_refl _) _)))
  · have HN : Hid (tok1 s.data.toList = some (⟨1, s.data.toList.takeWhile (pb isCon), 0, [], 0⟩, k)) := Lib.hid (by rw [HT.out, if_pos HL.out, if_neg h24])
    have HLen := Lib.hid hlen
    clear HT hlen
    go_enter Tryd.func32, Tryd.ntmps32
    go_wp2_with fail
    refine (begins_any _ _).mono ?_
    rw [HL.out]
    rintro e w1 ⟨rfl, rfl⟩
    go_wp2_with fail
    refine (HC.out _).mono ?_
    rintro e w1 ⟨rfl, rfl⟩
    go_wp2_with fail
    refine bodyPost_ret (v := .tuple #[.agg (tokA ⟨1, s.data.toList.takeWhile (pb isCon), 0, [], 0⟩), .int .i64 k]) ?_ rfl (ret_tok _ _ (tokOk_some HN.out HP.out (by rw [HLen.out]; omega)) (by omega) (((Below.refl _ _).alloc (Nat.le_refl _) _)))
    simp [results, Tryd.results32, go_sem, tokA, HE.out, HK.out]
theorem takeWhile_dig (s : ByteArray) (k : Nat) (h : k < (s.extract 0 (run isDig s.data.toList)).size) : isDig (s.extract 0 (run isDig s.data.toList))[k].toNat = true := by
  have h1 : (s.extract 0 (run isDig s.data.toList)).data.toList = s.data.toList.takeWhile (pb isDig) := by rw [ext0, take_run]
  have h2 : k < (s.extract 0 (run isDig s.data.toList)).data.toList.length := by simpa using h
  have h3 : (s.extract 0 (run isDig s.data.toList)).data.toList[k] ∈ s.data.toList.takeWhile (pb isDig) := by rw [← h1]; exact List.getElem_mem h2
  have h4 := List.all_takeWhile (p := pb isDig) (l := s.data.toList)
  exact (List.all_eq_true.1 h4) _ h3
theorem number_tok (s : ByteArray) (h0 : 0 < s.size) (hd : isDig s[0].toNat = true) :
    intTok s.data.toList = if (number (s.data.toList.takeWhile (pb isDig))).2 then some ((number (s.data.toList.takeWhile (pb isDig))).1, run isDig s.data.toList) else none := by
  have hc := cons1 s h0
  have ht : s.data.toList.takeWhile (pb isDig) = s[0] :: (s.data.toList.drop 1).takeWhile (pb isDig) := by
    conv => lhs; rw [hc]
    rw [List.takeWhile_cons_of_pos (p := pb isDig) hd]
  have hh : s.data.toList.head? = some s[0] := head_at s h0
  unfold intTok number
  have hl : (s.data.toList.takeWhile (pb isDig)).length = run isDig s.data.toList := rfl
  rw [hh, hl]
  have hh2 : (s.data.toList.takeWhile (pb isDig)).head? = some s[0] := by rw [ht]; rfl
  have hne : (s.data.toList.takeWhile (pb isDig)).isEmpty = false := by rw [ht]; rfl
  rw [hh2, hne]
  split
  · rfl
  · cases numGo (s.data.toList.takeWhile (pb isDig)) 0 <;> rfl
set_option maxRecDepth 100000 in
set_option maxHeartbeats 1000000 in
theorem next_digit (s : ByteArray) (w : World) (hs : s.size ≤ maxLen) (h0 : 0 < s.size) (hl : isDig s[0].toNat = true) :
    Calls Tryd.prog 32 #[.string s] w (RetTok s.data.toList w) := by
  have HC : Hid (∀ w, Calls Tryd.prog 28 #[.string s, .func (.func 53) #[] #[]] w fun e w' => e = .returned (.int .i64 (run isDig s.data.toList)) ∧ w = w') := Lib.hid (fun w => prefix_any s 53 isDig (fun n w _ _ => decimal_any n w) plain53 w hs)
  have hle := run_le isDig s.data.toList
  have hlen : s.data.toList.length = s.size := by simp
  rw [hlen] at hle
  have HNum : Hid (∀ w, Calls Tryd.prog 54 #[.string (s.extract 0 (run isDig s.data.toList))] w fun e w' => e = .returned (.tuple #[.int .i64 (number (s.data.toList.takeWhile (pb isDig))).1, .bool (number (s.data.toList.takeWhile (pb isDig))).2]) ∧ w = w') := Lib.hid (fun w => by
    have := number_any (s.extract 0 (run isDig s.data.toList)) w (by simp; omega) (takeWhile_dig s)
    rw [ext0, take_run] at this
    rw [ext0, take_run]
    exact this)
  unfold maxLen at hs
  have HT := Lib.hid (tok1_at s h0)
  have HTok := Lib.hid (number_tok s h0 hl)
  have HL := Lib.hid hl
  have HL2 := Lib.hid (isDig_let _ hl)
  have HP := Lib.hid (run_pos isDig s h0 hl)
  have HLen := Lib.hid hlen
  clear hl hlen
  generalize run isDig s.data.toList = k at *
  cases hok : (number (s.data.toList.takeWhile (pb isDig))).2
  · have HN : Hid (tok1 s.data.toList = none) := Lib.hid (by rw [HT.out, if_neg (by rw [HL2.out]; simp), if_pos HL.out, HTok.out, hok]; rfl)
    have HO := Lib.hid hok
    clear HT hok
    go_enter Tryd.func32, Tryd.ntmps32
    go_wp2_with fail
    refine (begins_any _ _).mono ?_
    rw [HL2.out]
    rintro e w1 ⟨rfl, rfl⟩
    go_wp2_with fail
    refine (decimal_any _ _).mono ?_
    rw [HL.out]
    rintro e w1 ⟨rfl, rfl⟩
    go_wp2_with fail
    refine (HC.out _).mono ?_
    rintro e w1 ⟨rfl, rfl⟩
    go_wp2_with fail
    refine (HNum.out _).mono ?_
    rw [HO.out]
    rintro e w1 ⟨rfl, rfl⟩
    go_wp2_with fail
    exact bodyPost_ret (v := .tuple #[.agg (tokA tok0), .int .i64 0]) (by simp [results, Tryd.results32, go_sem, tokA, tok0]) rfl (ret_tok _ _ (tokOk_none HN.out) (by omega) (((Below.refl _ _).alloc (Nat.le_refl _) _)))
  · have HN : Hid (tok1 s.data.toList = some (⟨2, [], (number (s.data.toList.takeWhile (pb isDig))).1, [], 0⟩, k)) := Lib.hid (by rw [HT.out, if_neg (by rw [HL2.out]; simp), if_pos HL.out, HTok.out, hok]; rfl)
    have HO := Lib.hid hok
    clear HT hok
    go_enter Tryd.func32, Tryd.ntmps32
    go_wp2_with fail
    refine (begins_any _ _).mono ?_
    rw [HL2.out]
    rintro e w1 ⟨rfl, rfl⟩
    go_wp2_with fail
    refine (decimal_any _ _).mono ?_
    rw [HL.out]
    rintro e w1 ⟨rfl, rfl⟩
    go_wp2_with fail
    refine (HC.out _).mono ?_
    rintro e w1 ⟨rfl, rfl⟩
    go_wp2_with fail
    refine (HNum.out _).mono ?_
    rw [HO.out]
    rintro e w1 ⟨rfl, rfl⟩
    go_wp2_with fail
    refine bodyPost_ret (v := .tuple #[.agg (tokA ⟨2, [], (number (s.data.toList.takeWhile (pb isDig))).1, [], 0⟩), .int .i64 k]) ?_ rfl (ret_tok _ _ (tokOk_some HN.out HP.out (by rw [HLen.out]; omega)) (by omega) (((Below.refl _ _).alloc (Nat.le_refl _) _)))
    simp [results, Tryd.results32, go_sem, tokA]
theorem litFrom_rng (l acc : List UInt8) (i : Nat) : 0 ≤ (litFrom l acc i).2 ∧ (litFrom l acc i).2 ≤ i + l.length ∧ ((litFrom l acc i).2 = 0 ∨ i < (litFrom l acc i).2) := by
  induction hn : l.length using Nat.strongRecOn generalizing l acc i with
  | _ n ih =>
    subst hn
    match l with
    | [] => simp [litFrom]
    | c :: r =>
      rw [litFrom]
      split
      · simp; omega
      · split
        · simp; omega
        · have hx := chrR_rng (c :: r)
          have := ih (r.drop ((chrR (c :: r)).2.toNat - 1)).length (by simp; omega) (r.drop ((chrR (c :: r)).2.toNat - 1)) (acc ++ [(chrR (c :: r)).1.toNat.toUInt8]) (i + (chrR (c :: r)).2.toNat) rfl
          simp only [List.length_drop, List.length_cons] at this hx ⊢
          omega
theorem litR_rng (l : List UInt8) : 0 ≤ (litR l).2 ∧ (litR l).2 ≤ l.length ∧ ((litR l).2 = 0 ∨ 1 ≤ (litR l).2) := by
  match l with
  | [] => simp [litR]
  | c :: r =>
    have := litFrom_rng r [] 1
    simp only [litR]
    split
    · simp only [List.length_cons]; omega
    · simp; omega
theorem bcell {W w1 : World} (hb : Below W.heap.size W w1) : (∀ b o, b < W.heap.size → w1.cell? ⟨b, o, none⟩ = W.cell? ⟨b, o, none⟩) ∧ (∀ b o, b < W.heap.size → w1.frozen? ⟨b, o, none⟩ = W.frozen? ⟨b, o, none⟩) :=
  ⟨fun b o h => hb.cell (p := ⟨b, o, none⟩) h, fun b o h => hb.frozen (p := ⟨b, o, none⟩) h⟩
set_option maxRecDepth 100000 in
set_option maxHeartbeats 1000000 in
theorem next_quote (s : ByteArray) (w : World) (hs : s.size ≤ maxLen) (hr : s.size ≤ 140737488355328) (h0 : 0 < s.size) (hl : (s[0].toNat : Int) = 34) :
    Calls Tryd.prog 32 #[.string s] w (RetTok s.data.toList w) := by
  have HC : Hid (∀ w, Calls Tryd.prog 38 #[.string s] w fun e w' => e = .returned (.tuple #[.string ⟨(litR s.data.toList).1.toArray⟩, .int .i64 (litR s.data.toList).2]) ∧ Below w.heap.size w w') := Lib.hid (fun w => literal_any s w hs hr)
  unfold maxLen at hs
  have HR := Lib.hid (litR_rng s.data.toList)
  have hlen : s.data.toList.length = s.size := by simp
  have HT := Lib.hid (tok1_at s h0)
  have HL1 := Lib.hid (q_let _ hl).1
  have HL2 := Lib.hid (q_let _ hl).2
  have HQ := Lib.hid hl
  have x1 : ((s[0].toNat : Int) == 34) = true := by simp [hl]
  have HLen := Lib.hid hlen
  clear hl hlen
  have HN : Hid (TokOk s.data.toList ⟨3, [], 0, (litR s.data.toList).1, 0⟩ (litR s.data.toList).2) := by
    refine Lib.hid ?_
    have h1 := HT.out
    rw [if_neg (by rw [HL1.out]; simp), if_neg (by rw [HL2.out]; simp), if_pos HQ.out] at h1
    obtain ⟨r1, r2, r3⟩ := HR.out
    by_cases hz : (litR s.data.toList).2 = 0
    · rw [if_pos hz] at h1; rw [hz]; exact tokOk_none h1
    · rw [if_neg hz] at h1
      obtain ⟨m, hm⟩ := Int.eq_ofNat_of_zero_le r1
      rw [hm] at h1 ⊢
      refine tokOk_some h1 (by omega) ?_
      rw [hm] at r2; exact_mod_cast r2
  clear HT
  go_enter Tryd.func32, Tryd.ntmps32
  go_wp2_with fail
  refine (begins_any _ _).mono ?_
  rw [HL1.out]
  rintro e w1 ⟨rfl, rfl⟩
  go_wp2_with fail
  refine (decimal_any _ _).mono ?_
  rw [HL2.out]
  rintro e w1 ⟨rfl, rfl⟩
  go_wp2_with fail
  refine (HC.out _).mono ?_
  rintro e w1 ⟨rfl, hb⟩
  obtain ⟨hc, hf⟩ := bcell hb
  have HB := Lib.hid hb
  have hz : w.heap.size < w1.heap.size := by have := hb.size; simp at this; omega
  clear hb
  go_wp2_with fail
  refine bodyPost_ret (v := .tuple #[.agg (tokA ⟨3, [], 0, (litR s.data.toList).1, 0⟩), .int .i64 (litR s.data.toList).2]) ?_ rfl (ret_tok _ _ HN.out HR.out.1 ?_)
  · simp [results, Tryd.results32, go_sem, tokA, hc]
  · exact ((((((Below.refl _ _).alloc (Nat.le_refl _) _).trans (HB.out.mono (by simp))).setCell (Nat.le_refl _) _).setCell (Nat.le_refl _) _).setCell (Nat.le_refl _) _).setCell (Nat.le_refl _) _ |>.setCell (Nat.le_refl _) _

theorem sym_index : ∀ n : Fin 256, decide (0 ≤ Lib.indexByte [123, 125, 40, 41, 91, 93, 44, 59, 58, 61, 47, 43, 45, 60, 62, 124, 38, 42] (n.val : Int).toNat.toUInt8) = isSym n.val := by decide +kernel
theorem sym_ge (c : UInt8) : decide (0 ≤ Lib.indexByte (ByteArray.mk #[123, 125, 40, 41, 91, 93, 44, 59, 58, 61, 47, 43, 45, 60, 62, 124, 38, 42]).data.toList (c.toNat : Int).toNat.toUInt8) = isSym c.toNat := sym_index ⟨c.toNat, c.toNat_lt⟩
theorem take1 (s : ByteArray) (h : 0 < s.size) : s.extract 0 1 = ⟨[s[0]].toArray⟩ := by
  rw [ext0, cons1 s h]; rfl
set_option maxRecDepth 100000 in
set_option maxHeartbeats 1000000 in
theorem next_other (s : ByteArray) (w : World) (hs : s.size ≤ maxLen) (h0 : 0 < s.size) (hl : isLet s[0].toNat = false) (hd : isDig s[0].toNat = false) (hq : (s[0].toNat : Int) ≠ 34) :
    Calls Tryd.prog 32 #[.string s] w (RetTok s.data.toList w) := by
  unfold maxLen at hs
  have HT : Hid (tok1 s.data.toList = if isSym s[0].toNat then some (⟨4, [s[0]], 0, [], 0⟩, 1) else none) := Lib.hid (by
    rw [tok1_at s h0, if_neg (by rw [hl]; simp), if_neg (by rw [hd]; simp), if_neg hq])
  have HL1 := Lib.hid hl
  have HL2 := Lib.hid hd
  have HE := Lib.hid (take1 s h0)
  have x1 : ((s[0].toNat : Int) == 34) = false := by simp [hq]
  obtain ⟨x, hx, hcall⟩ : ∃ x : Int, decide (0 ≤ x) = isSym s[0].toNat ∧ ∀ w, Calls Tryd.prog 31 #[.string ⟨#[123, 125, 40, 41, 91, 93, 44, 59, 58, 61, 47, 43, 45, 60, 62, 124, 38, 42]⟩, .int .u8 s[0].toNat] w fun e w' => e = .returned (.int .i64 x) ∧ w = w' :=
    ⟨_, sym_ge s[0], fun w => flip_same (Tryd.strings_IndexByte _ _ w)⟩
  have HX := Lib.hid hcall
  clear hl hd hq hcall
  have hlen : 1 ≤ s.data.toList.length := by simp; omega
  have HLen := Lib.hid hlen
  clear hlen
  by_cases hx0 : 0 ≤ x
  · have HN : Hid (tok1 s.data.toList = some (⟨4, [s[0]], 0, [], 0⟩, 1)) := Lib.hid (by rw [HT.out, ← hx, if_pos (by simpa using hx0)]; rfl)
    clear hx
    go_enter Tryd.func32, Tryd.ntmps32
    go_wp2_with fail
    refine (begins_any _ _).mono ?_
    rw [HL1.out]
    rintro e w1 ⟨rfl, rfl⟩
    go_wp2_with fail
    refine (decimal_any _ _).mono ?_
    rw [HL2.out]
    rintro e w1 ⟨rfl, rfl⟩
    go_wp2_with fail
    refine (HX.out _).mono ?_
    rintro e w1 ⟨rfl, rfl⟩
    go_wp2_with fail
    refine bodyPost_ret (v := .tuple #[.agg (tokA ⟨4, [s[0]], 0, [], 0⟩), .int .i64 1]) ?_ rfl (ret_tok _ _ (tokOk_some (m := 1) HN.out (by omega) HLen.out) (by omega) (((Below.refl _ _).alloc (Nat.le_refl _) _)))
    simp [results, Tryd.results32, go_sem, tokA, HE.out]
    rfl
  · have HN : Hid (tok1 s.data.toList = none) := Lib.hid (by rw [HT.out, ← hx, if_neg (by simpa using hx0)])
    clear hx
    go_enter Tryd.func32, Tryd.ntmps32
    go_wp2_with fail
    refine (begins_any _ _).mono ?_
    rw [HL1.out]
    rintro e w1 ⟨rfl, rfl⟩
    go_wp2_with fail
    refine (decimal_any _ _).mono ?_
    rw [HL2.out]
    rintro e w1 ⟨rfl, rfl⟩
    go_wp2_with fail
    refine (HX.out _).mono ?_
    rintro e w1 ⟨rfl, rfl⟩
    go_wp2_with fail
    exact bodyPost_ret (v := .tuple #[.agg (tokA tok0), .int .i64 0]) (by simp [results, Tryd.results32, go_sem, tokA, tok0]) rfl (ret_tok _ _ (tokOk_none HN.out) (by omega) (((Below.refl _ _).alloc (Nat.le_refl _) _)))
theorem next_any (s : ByteArray) (w : World) (hs : s.size ≤ maxLen) (hr : s.size ≤ 140737488355328) (h0 : 0 < s.size) :
    Calls Tryd.prog 32 #[.string s] w (RetTok s.data.toList w) := by
  cases hl : isLet s[0].toNat
  · cases hd : isDig s[0].toNat
    · by_cases hq : (s[0].toNat : Int) = 34
      · exact next_quote s w hs hr h0 hq
      · exact next_other s w hs h0 hl hd hq
    · exact next_digit s w hs h0 hd
  · exact next_letter s w hs h0 hl
end Go.Proofs.YtdjpnncehlmehaaDoor
