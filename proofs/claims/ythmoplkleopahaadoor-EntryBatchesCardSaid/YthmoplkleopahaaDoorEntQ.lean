/- What a value reads as: the program's reading, the reference's, and that both find a valid entry again. -/
import Derived.Test.YthmoplkleopahaaDoorEntP
import Derived.Test.YthmoplkleopahaaDoorWireGP
namespace Go.Proofs.YthmoplkleopahaaDoor

/-! bounds of a valid entry -/
theorem vRqs_mem : ∀ (l done : List Rq), vRqs done l = 0 → ∀ r ∈ l, 0 ≤ r.client ∧ r.client < 6 ∧ 1 ≤ r.number ∧ r.number ≤ 1000000 ∧ r.op ≠ [] ∧ r.op.length ≤ 200
  | [], _, _, r, hr => by simp at hr
  | x :: t, done, h, r, hr => by
    rw [vRqs] at h
    split at h
    · rename_i h0
      rcases List.mem_cons.1 hr with rfl | hr
      · unfold vRq at h0
        split at h0
        · simp at h0
        · split at h0
          · simp at h0
          · split at h0
            · simp at h0
            · refine ⟨?_, ?_, ?_, ?_, ?_, ?_⟩ <;> first | omega | assumption
      · exact vRqs_mem t _ h r hr
    · rename_i h0; exact absurd h h0
/-- requests in their ranges -/
def RqB (r : Rq) : Prop := 0 ≤ r.client ∧ r.client < 6 ∧ 1 ≤ r.number ∧ r.number ≤ 1000000 ∧ r.op ≠ [] ∧ r.op.length ≤ 200
theorem rqS_tot (r : Rq) (h : RqB r) : tot (rqS r) ≤ 214 := by
  obtain ⟨h1, h2, h3, h4, h5, h6⟩ := h
  have a := itoa_len r.client h1 (by omega)
  have b := itoa_len r.number (by omega) (by omega)
  simp only [rqS, tot_cons]
  simp only [tot, List.map_nil, List.sum_nil]
  omega
theorem rqS_mem (r : Rq) (h : RqB r) : ∀ x ∈ rqS r, x.length ≤ 200 := by
  obtain ⟨h1, h2, h3, h4, h5, h6⟩ := h
  have a := itoa_len r.client h1 (by omega)
  have b := itoa_len r.number (by omega) (by omega)
  intro x hx
  simp only [rqS, List.mem_cons, List.not_mem_nil, or_false] at hx
  rcases hx with rfl | rfl | rfl <;> omega
theorem varint_short (n : Nat) (h : n < 16384) : (varint n).length ≤ 2 := varint_len 1 n (by simpa using h)
theorem itoa_one (n : Int) (h0 : 0 ≤ n) (h1 : n < 10) : (Lib.itoa n).length ≤ 1 := by
  obtain ⟨u, rfl⟩ := Int.eq_ofNat_of_zero_le h0
  rw [Lib.itoa_nonneg]
  exact dd_len 0 u (by simpa using (by omega : u < 10))
theorem rq_code (r : Rq) (h : RqB r) : ((rqS r).flatMap putStr).length ≤ 212 := by
  obtain ⟨h1, h2, h3, h4, h5, h6⟩ := h
  have a := itoa_one r.client h1 (by omega)
  have b := itoa_len r.number (by omega) (by omega)
  have c1 := varint_len 0 (Lib.itoa r.client).length (by simp; omega)
  have c2 := varint_len 0 (Lib.itoa r.number).length (by simp; omega)
  have c3 := varint_short r.op.length (by omega)
  simp only [rqS, List.flatMap_cons, List.flatMap_nil, List.append_nil, List.length_append, putStr]
  omega
theorem rqs_code (l : List Rq) (h : ∀ r ∈ l, RqB r) : ((l.flatMap rqS).flatMap putStr).length ≤ 212 * l.length ∧ (l.flatMap rqS).length = 3 * l.length ∧ tot (l.flatMap rqS) ≤ 214 * l.length ∧ ∀ x ∈ l.flatMap rqS, x.length ≤ 200 := by
  induction l with
  | nil => simp [tot]
  | cons r t ih =>
    obtain ⟨i1, i2, i3, i4⟩ := ih (fun y hy => h y (by simp [hy]))
    have h1 := rq_code r (h r (by simp))
    have h2 := rqS_tot r (h r (by simp))
    have h3 := rqS_mem r (h r (by simp))
    refine ⟨?_, ?_, ?_, ?_⟩
    · simp only [List.flatMap_cons, List.flatMap_append, List.length_append, List.length_cons] at i1 h1 ⊢; omega
    · simp only [List.flatMap_cons, List.length_append, List.length_cons] at i2 ⊢; rw [i2]; simp [rqS]; omega
    · simp only [List.flatMap_cons, List.length_cons] at i3 ⊢
      have ht : ∀ a b : List (List UInt8), tot (a ++ b) = tot a + tot b := by intro a b; simp [tot]
      rw [ht]; omega
    · intro x hx
      simp only [List.flatMap_cons, List.mem_append] at hx
      rcases hx with hx | hx
      · exact h3 x hx
      · exact i4 x hx
/-- the parts of a valid entry: few and short -/
theorem strs_ok (e : En) (h : vEn e = 0) : (strs e).length ≤ 25 ∧ (∀ x ∈ strs e, x.length ≤ 200) ∧ tot (strs e) ≤ 2000 ∧ (valE e).length ≤ 1800 := by
  unfold vEn at h
  unfold valE putList
  split at h
  · rename_i hk
    split at h
    · simp at h
    · split at h
      · simp at h
      · rename_i h8
        obtain ⟨i1, i2, i3, i4⟩ := rqs_code e.rs (vRqs_mem e.rs [] h)
        have he : strs e = wBatch :: e.rs.flatMap rqS := by unfold strs; rw [if_neg (by omega), if_neg (by omega)]
        rw [he]
        have hv := varint_len 0 (wBatch :: e.rs.flatMap rqS).length (by simp only [List.length_cons, i2]; simp; omega)
        refine ⟨by simp only [List.length_cons, i2]; omega, ?_, by rw [tot_cons]; simp only [wBatch, List.length_cons, List.length_nil]; omega, ?_⟩
        · intro x hx
          rcases List.mem_cons.1 hx with rfl | hx
          · simp [wBatch]
          · exact i4 x hx
        · have hb : (putStr wBatch).length = 6 := by decide +kernel
          simp only [List.flatMap_cons, List.length_append, hb] at hv ⊢
          omega
  · split at h
    · rename_i h1 hk
      split at h
      · simp at h
      · have hl := itoa_len e.cfg (by omega) (by omega)
        have he : strs e = [wJoin, Lib.itoa e.cfg] := by unfold strs; rw [if_pos hk]
        have hv := varint_len 0 (Lib.itoa e.cfg).length (by simp; omega)
        have hv2 := varint_len 0 [wJoin, Lib.itoa e.cfg].length (by simp)
        rw [he]
        refine ⟨by simp, ?_, by simp only [tot_cons, wJoin, List.length_cons, List.length_nil]; simp only [tot, List.map_nil, List.sum_nil]; omega, ?_⟩
        · intro x hx
          simp only [List.mem_cons, List.not_mem_nil, or_false] at hx
          rcases hx with rfl | rfl
          · simp [wJoin]
          · omega
        · have hb : (putStr wJoin).length = 5 := by decide +kernel
          simp only [List.flatMap_cons, List.flatMap_nil, List.append_nil, List.length_append, putStr] at hv hv2 ⊢
          have hb2 : (varint wJoin.length ++ wJoin).length = 5 := hb
          simp only [List.length_append] at hb2
          omega
    · split at h
      · rename_i h1 h2 hk
        have he : strs e = [wFinish] := by unfold strs; rw [if_neg h2, if_pos hk]
        rw [he]
        decide +kernel
      · simp at h
/-! the program's reading -/
def trip : List (List UInt8) → List Rq
  | a :: b :: c :: r => ⟨atoi0 a, atoi0 b, c⟩ :: trip r
  | _ => []
def readE : List (List UInt8) → En
  | [] => ⟨1, 0, []⟩
  | h :: t => if h = wJoin ∧ t.length = 1 then ⟨2, atoi0 (t.headD []), []⟩ else if h = wFinish then ⟨3, 0, []⟩ else ⟨1, 0, trip t⟩
theorem trip_rqs (l : List Rq) (h : ∀ r ∈ l, RqB r) : trip (l.flatMap rqS) = l := by
  induction l with
  | nil => rfl
  | cons r t ih =>
    obtain ⟨h1, h2, h3, h4, _⟩ := h r (by simp)
    simp only [List.flatMap_cons, rqS, List.cons_append, List.nil_append, trip]
    rw [atoi0_itoa r.client h1 (by omega), atoi0_itoa r.number (by omega) (by omega)]
    exact congrArg _ (ih (fun y hy => h y (by simp [hy])))
theorem en_eta (e : En) (k c : Int) (l : List Rq) (h1 : e.kind = k) (h2 : e.cfg = c) (h3 : e.rs = l) : (⟨k, c, l⟩ : En) = e := by
  cases e; simp at *; simp [*]
theorem readE_strs (e : En) (h : vEn e = 0) : readE (strs e) = e := by
  unfold vEn at h
  split at h
  · rename_i hk
    split at h
    · simp at h
    · split at h
      · simp at h
      · rename_i h0 h8
        have he : strs e = wBatch :: e.rs.flatMap rqS := by unfold strs; rw [if_neg (by omega), if_neg (by omega)]
        rw [he, readE, if_neg (by intro hh; exact absurd hh.1 (by decide)), if_neg (by decide), trip_rqs e.rs (vRqs_mem e.rs [] h)]
        exact en_eta e _ _ _ hk (by simpa using h0) rfl
  · split at h
    · rename_i h1 hk
      split at h
      · simp at h
      · rename_i h2
        have he : strs e = [wJoin, Lib.itoa e.cfg] := by unfold strs; rw [if_pos hk]
        rw [he, readE, if_pos ⟨rfl, rfl⟩, List.headD_cons, atoi0_itoa e.cfg (by omega) (by omega)]
        exact en_eta e _ _ _ hk rfl (by
          by_cases hr : e.rs = []
          · exact hr
          · exact absurd (.inr (.inr hr)) h2)
    · split at h
      · rename_i h1 h2 hk
        split at h
        · simp at h
        · rename_i h3
          have he : strs e = [wFinish] := by unfold strs; rw [if_neg h2, if_pos hk]
          rw [he, readE, if_neg (by intro hh; exact absurd hh.1 (by decide)), if_pos rfl]
          exact en_eta e _ _ _ hk (by
            by_cases hr : e.cfg = 0
            · exact hr
            · exact absurd (.inl hr) h3) (by
            by_cases hr : e.rs = []
            · exact hr
            · exact absurd (.inr hr) h3)
      · simp at h
theorem strs_ne (e : En) : strs e ≠ [] := by
  unfold strs
  split
  · simp
  · split <;> simp
/-! the entry with a value -/
def Right (s : List UInt8) (e : En) : Prop := vEn e = 0 ∧ valE e = s
theorem right_list {s : List UInt8} {e : En} (h : Right s e) : getList s = some (strs e, s.length) := by
  obtain ⟨h1, rfl⟩ := h
  obtain ⟨a, b, c, d⟩ := strs_ok e h1
  have := getList_put (strs e) [] (by omega) (fun x hx => by have := b x hx; omega)
  rw [List.append_nil] at this
  exact this
theorem right_one {s : List UInt8} {e e' : En} (h : Right s e) (h' : Right s e') : e = e' := by
  have h1 := (right_list h).symm.trans (right_list h')
  simp only [Option.some.injEq, Prod.mk.injEq, and_true] at h1
  rw [← readE_strs e h.1, ← readE_strs e' h'.1, h1]
noncomputable def decE (s : List UInt8) : Option En := @dite _ (∃ e, Right s e) (Classical.propDecidable _) (fun h => some (Classical.choose h)) (fun _ => none)
theorem decE_some {s : List UInt8} {e : En} (h : Right s e) : decE s = some e := by
  have hx : ∃ e, Right s e := ⟨e, h⟩
  unfold decE
  rw [dif_pos hx]
  exact congrArg some (right_one (Classical.choose_spec hx) h)
theorem decE_none {s : List UInt8} (h : ∀ e, ¬ Right s e) : decE s = none := by
  unfold decE
  rw [dif_neg (fun ⟨e, he⟩ => h e he)]
theorem decE_right {s : List UInt8} {e : En} (h : decE s = some e) : Right s e := by
  unfold decE at h
  split at h
  · rename_i hx
    simp only [Option.some.injEq] at h
    subst h
    exact Classical.choose_spec hx
  · simp at h
theorem decE_val (e : En) (h : vEn e = 0) : decE (valE e) = some e := decE_some ⟨h, rfl⟩
/-- the program: what was read is it, or nothing is -/
theorem decE_read {s : List UInt8} {l : List (List UInt8)} {n : Nat} (hl : getList s = some (l, n)) : decE s = if vEn (readE l) = 0 ∧ valE (readE l) = s then some (readE l) else none := by
  split
  · rename_i h; exact decE_some h
  · rename_i h
    refine decE_none fun e he => h ?_
    have h1 := (right_list he).symm.trans hl
    simp only [Option.some.injEq, Prod.mk.injEq] at h1
    rw [← h1.1, readE_strs e he.1]
    exact he
theorem decE_bad {s : List UInt8} (hl : getList s = none) : decE s = none := decE_none fun e he => by
  have := right_list he
  rw [hl] at this; simp at this
theorem decE_nil {s : List UInt8} {n : Nat} (hl : getList s = some ([], n)) : decE s = none := by
  refine decE_none fun e he => ?_
  have h1 := (right_list he).symm.trans hl
  simp only [Option.some.injEq, Prod.mk.injEq] at h1
  exact strs_ne e h1.1
/-! the reference's reading -/
def takeR (s : List UInt8) (most : Nat) : Nat × Nat :=
  match s with
  | [] => (0, 0)
  | c :: r =>
    if c.toNat < 128 then (if most < c.toNat then (0, 0) else (c.toNat, 1))
    else match r with
      | [] => (0, 0)
      | d :: _ => if d.toNat = 0 ∨ 128 ≤ d.toNat then (0, 0) else if most < c.toNat - 128 + 128 * d.toNat then (0, 0) else (c.toNat - 128 + 128 * d.toNat, 2)
/-- what stands behind, and whether it could be read -/
def refGo : Nat → List UInt8 → Option (List (List UInt8) × Nat)
  | 0, _ => some ([], 0)
  | k + 1, s =>
    if (takeR s 200).2 = 0 ∨ s.length < (takeR s 200).2 + (takeR s 200).1 then none
    else match refGo k (s.drop ((takeR s 200).2 + (takeR s 200).1)) with
      | none => none
      | some (xs, m) => some ((s.drop (takeR s 200).2).take (takeR s 200).1 :: xs, (takeR s 200).2 + (takeR s 200).1 + m)
def refStrs (s : List UInt8) : Option (List (List UInt8)) :=
  if (takeR s 25).2 = 0 then none
  else match refGo (takeR s 25).1 (s.drop (takeR s 25).2) with
    | none => none
    | some (xs, m) => if (takeR s 25).2 + m = s.length then some xs else none
theorem takeR_le (s : List UInt8) (m : Nat) : (takeR s m).2 ≤ s.length ∧ (takeR s m).1 ≤ m := by
  unfold takeR
  split
  · simp
  · split
    · split <;> simp
      omega
    · split
      · simp
      · split
        · simp
        · split <;> simp
          omega
theorem takeR_put (n most : Nat) (r : List UInt8) (h : n ≤ most) (hm : most < 16384) : takeR (varint n ++ r) most = (n, (varint n).length) := by
  by_cases hn : n < 128
  · have ht : n.toUInt8.toNat = n := by simp; omega
    rw [varint_small n hn]
    simp only [List.cons_append, takeR, ht]
    rw [if_pos hn, if_neg (by omega)]
    rfl
  · have ht : ((128 + n % 128).toUInt8).toNat = 128 + n % 128 := by simp; omega
    have hd : (n / 128).toUInt8.toNat = n / 128 := by simp; omega
    rw [varint_big n hn, varint_small (n / 128) (by omega)]
    simp only [List.cons_append, List.nil_append, takeR, ht, hd]
    rw [if_neg (by omega), if_neg (by omega), if_neg (by omega)]
    simp only [List.length_cons, List.length_nil, Prod.mk.injEq, and_true]
    omega
theorem refGo_put (l : List (List UInt8)) (h : ∀ x ∈ l, x.length ≤ 200) (r : List UInt8) : refGo l.length (l.flatMap putStr ++ r) = some (l, (l.flatMap putStr).length) := by
  induction l with
  | nil => rfl
  | cons x t ih =>
    have hx := takeR_put x.length 200 (x ++ (t.flatMap putStr ++ r)) (h x (by simp)) (by omega)
    have ih' := ih (fun y hy => h y (by simp [hy]))
    have he : (x :: t).flatMap putStr ++ r = varint x.length ++ (x ++ (t.flatMap putStr ++ r)) := by simp [putStr]
    have hd : (varint x.length ++ (x ++ (t.flatMap putStr ++ r))).drop ((varint x.length).length + x.length) = t.flatMap putStr ++ r := by
      rw [← List.append_assoc, List.drop_left' (by simp)]
    have hv := varint_pos x.length
    rw [he, List.length_cons, refGo, hx]
    simp only []
    rw [if_neg (by simp only [List.length_append]; omega), hd, ih', List.drop_left, List.take_left]
    simp [putStr]
    omega
theorem refStrs_put (l : List (List UInt8)) (h : ∀ x ∈ l, x.length ≤ 200) (hl : l.length ≤ 25) : refStrs (putList l) = some l := by
  have ht := takeR_put l.length 25 (l.flatMap putStr) hl (by omega)
  have hg := refGo_put l h []
  have hv := varint_pos l.length
  rw [List.append_nil] at hg
  unfold refStrs putList
  rw [ht]
  simp only []
  rw [if_neg (by omega), List.drop_left, hg]
  simp
def tripR : List (List UInt8) → List Rq
  | a :: b :: c :: r => ⟨numR a, numR b, c⟩ :: tripR r
  | _ => []
def readR : List (List UInt8) → En
  | [] => ⟨0, 0, []⟩
  | h :: t => if h = wFinish then ⟨3, 0, []⟩ else if h = wJoin ∧ t.length = 1 then ⟨2, numR (t.headD []), []⟩ else if h = wBatch ∧ t.length % 3 = 0 then ⟨1, 0, tripR t⟩ else ⟨0, 0, []⟩
theorem tripR_rqs (l : List Rq) (h : ∀ r ∈ l, RqB r) : tripR (l.flatMap rqS) = l := by
  induction l with
  | nil => rfl
  | cons r t ih =>
    obtain ⟨h1, h2, h3, h4, _⟩ := h r (by simp)
    simp only [List.flatMap_cons, rqS, List.cons_append, List.nil_append, tripR]
    rw [numR_itoa r.client h1 (by omega), numR_itoa r.number (by omega) (by omega)]
    exact congrArg _ (ih (fun y hy => h y (by simp [hy])))
theorem readR_strs (e : En) (h : vEn e = 0) : readR (strs e) = e := by
  unfold vEn at h
  split at h
  · rename_i hk
    split at h
    · simp at h
    · split at h
      · simp at h
      · rename_i h0 h8
        have he : strs e = wBatch :: e.rs.flatMap rqS := by unfold strs; rw [if_neg (by omega), if_neg (by omega)]
        have hr := rqs_code e.rs (vRqs_mem e.rs [] h)
        rw [he, readR, if_neg (by decide), if_neg (by intro hh; exact absurd hh.1 (by decide)), if_pos ⟨rfl, by rw [hr.2.1]; omega⟩, tripR_rqs e.rs (vRqs_mem e.rs [] h)]
        exact en_eta e _ _ _ hk (by simpa using h0) rfl
  · split at h
    · rename_i h1 hk
      split at h
      · simp at h
      · rename_i h2
        have he : strs e = [wJoin, Lib.itoa e.cfg] := by unfold strs; rw [if_pos hk]
        rw [he, readR, if_neg (by decide), if_pos ⟨rfl, rfl⟩, List.headD_cons, numR_itoa e.cfg (by omega) (by omega)]
        exact en_eta e _ _ _ hk rfl (by
          by_cases hr : e.rs = []
          · exact hr
          · exact absurd (.inr (.inr hr)) h2)
    · split at h
      · rename_i h1 h2 hk
        split at h
        · simp at h
        · rename_i h3
          have he : strs e = [wFinish] := by unfold strs; rw [if_neg h2, if_pos hk]
          rw [he, readR, if_pos rfl]
          exact en_eta e _ _ _ hk (by
            by_cases hr : e.cfg = 0
            · exact hr
            · exact absurd (.inl hr) h3) (by
            by_cases hr : e.rs = []
            · exact hr
            · exact absurd (.inr hr) h3)
      · simp at h
theorem right_ref {s : List UInt8} {e : En} (h : Right s e) : refStrs s = some (strs e) := by
  obtain ⟨h1, rfl⟩ := h
  obtain ⟨a, b, _, _⟩ := strs_ok e h1
  exact refStrs_put (strs e) b a
theorem decE_ref {s : List UInt8} {l : List (List UInt8)} (hl : refStrs s = some l) : decE s = if vEn (readR l) = 0 ∧ valE (readR l) = s then some (readR l) else none := by
  split
  · rename_i h; exact decE_some h
  · rename_i h
    refine decE_none fun e he => h ?_
    have h1 := (right_ref he).symm.trans hl
    simp only [Option.some.injEq] at h1
    rw [← h1, readR_strs e he.1]
    exact he
theorem decE_refBad {s : List UInt8} (hl : refStrs s = none) : decE s = none := decE_none fun e he => by
  have := right_ref he
  rw [hl] at this; simp at this
theorem decE_refNil {s : List UInt8} (hl : refStrs s = some []) : decE s = none := by
  refine decE_none fun e he => ?_
  have h1 := (right_ref he).symm.trans hl
  simp only [Option.some.injEq] at h1
  exact strs_ne e h1
end Go.Proofs.YthmoplkleopahaaDoor
