/- Fields in plain words. -/
import Derived.Test.YtdjpnncehlmehaaDoorQ
import Derived.Lib.FieldsP
import Derived.Laws.RangeAny
namespace Go.Proofs.YtdjpnncehlmehaaDoor
open Go.RowKit

def addF (cur : List UInt8) (acc : List (List UInt8)) : List (List UInt8) := if cur = [] then acc else acc ++ [cur]
def flds : List UInt8 → List UInt8 → List (List UInt8) → List (List UInt8)
  | [], cur, acc => addF cur acc
  | c :: r, cur, acc => if isSp c.toNat then flds r [] (addF cur acc) else flds r (cur ++ [c]) acc
def fields (l : List UInt8) : List (List UInt8) := flds l [] []
/-- parts that are not empty and hold no white space -/
def Parts (ls : List (List UInt8)) : Prop := ∀ x ∈ ls, x ≠ [] ∧ ∀ c ∈ x, isSp c.toNat = false
theorem flds_parts (l cur : List UInt8) (acc : List (List UInt8)) (h : Parts acc) (hc : ∀ c ∈ cur, isSp c.toNat = false) : Parts (flds l cur acc) := by
  have hadd : ∀ cur : List UInt8, ∀ acc : List (List UInt8), Parts acc → (∀ c ∈ cur, isSp c.toNat = false) → Parts (addF cur acc) := by
    intro cur acc h hc
    unfold addF
    split
    · exact h
    · rename_i hne
      intro x hx
      rw [List.mem_append, List.mem_singleton] at hx
      rcases hx with hx | rfl
      · exact h x hx
      · exact ⟨hne, hc⟩
  induction l generalizing cur acc with
  | nil => exact hadd cur acc h hc
  | cons c r ih =>
    rw [flds]
    split
    · exact ih _ _ (hadd cur acc h hc) (by simp)
    · rename_i hs
      refine ih _ _ h (fun d hd => ?_)
      rw [List.mem_append, List.mem_singleton] at hd
      rcases hd with hd | rfl
      · exact hc d hd
      · simpa using hs
theorem flds_run (x rest cur : List UInt8) (acc : List (List UInt8)) (hx : ∀ c ∈ x, isSp c.toNat = false) : flds (x ++ rest) cur acc = flds rest (cur ++ x) acc := by
  induction x generalizing cur with
  | nil => simp
  | cons c r ih =>
    rw [List.cons_append, flds, if_neg (by rw [hx c (by simp)]; simp), ih _ (fun d hd => hx d (by simp [hd]))]
    simp
def joinF (ls : List (List UInt8)) : List UInt8 := 13 :: ls.flatMap (· ++ [32, 9, 10])
theorem joinF_snoc (ls : List (List UInt8)) (x : List UInt8) : joinF (ls ++ [x]) = joinF ls ++ (x ++ [32, 9, 10]) := by simp [joinF]
theorem flds_join (ls acc : List (List UInt8)) (h : Parts ls) : flds (ls.flatMap (· ++ [32, 9, 10])) [] acc = acc ++ ls := by
  induction ls generalizing acc with
  | nil => simp [flds, addF]
  | cons x r ih =>
    have hx := h x (by simp)
    rw [List.flatMap_cons, List.append_assoc, flds_run x _ [] acc hx.2]
    simp only [List.nil_append, List.cons_append]
    rw [flds, if_pos (by decide), flds, if_pos (by decide), flds, if_pos (by decide)]
    simp only [addF, if_true, hx.1, if_false]
    rw [ih _ (fun y hy => h y (by simp [hy]))]
    simp
theorem fields_join (l : List UInt8) : fields (joinF (fields l)) = fields l := by
  have hp : Parts (fields l) := flds_parts l [] [] (by intro x hx; cases hx) (by simp)
  have e : fields (joinF (fields l)) = flds ((fields l).flatMap (· ++ [32, 9, 10])) [] [] := by
    unfold fields joinF
    rw [flds, if_pos (by decide)]
    rfl
  rw [e, flds_join _ _ hp]
  simp
def tot (ls : List (List UInt8)) : Nat := (ls.map List.length).sum
theorem tot_snoc (ls : List (List UInt8)) (x : List UInt8) : tot (ls ++ [x]) = tot ls + x.length := by simp [tot]
theorem flds_tot (l cur : List UInt8) (acc : List (List UInt8)) : tot (flds l cur acc) ≤ tot acc + cur.length + l.length ∧ (flds l cur acc).length ≤ acc.length + l.length + (if cur = [] then 0 else 1) := by
  have hadd : ∀ cur : List UInt8, ∀ acc : List (List UInt8), tot (addF cur acc) = tot acc + cur.length ∧ (addF cur acc).length = acc.length + (if cur = [] then 0 else 1) := by
    intro cur acc
    unfold addF
    split
    · rename_i h; subst h; simp
    · rw [tot_snoc]; simp
  induction l generalizing cur acc with
  | nil => rw [flds]; have := hadd cur acc; simp only [List.length_nil]; omega
  | cons c r ih =>
    rw [flds]
    split
    · have h1 := hadd cur acc
      have h2 := ih [] (addF cur acc)
      simp only [List.length_cons, List.length_nil, if_true] at h2 ⊢
      omega
    · have h2 := ih (cur ++ [c]) acc
      have h3 : ¬ cur ++ [c] = [] := by simp
      rw [if_neg h3] at h2
      simp only [List.length_cons, List.length_append, List.length_nil] at h2 ⊢
      split <;> omega
theorem fields_tot (l : List UInt8) : tot (fields l) ≤ l.length ∧ (fields l).length ≤ l.length := by
  have := flds_tot l [] []
  simp [tot] at this
  exact ⟨by simpa [tot, fields] using this.1, this.2⟩
theorem joinF_len (ls : List (List UInt8)) : (joinF ls).length = 1 + tot ls + 3 * ls.length := by
  induction ls with
  | nil => rfl
  | cons x r ih =>
    simp only [joinF, tot, List.flatMap_cons, List.length_cons, List.length_append, List.map_cons, List.sum_cons, List.length_nil] at ih ⊢
    omega

/-- the same, byte by byte, by places -/
def bspan (s : ByteArray) : Nat → Nat → Option Nat → List (Nat × Nat) → List (Nat × Nat) × Option Nat
  | 0, _, st, acc => (acc, st)
  | f + 1, pos, st, acc =>
    if h : pos < s.size then
      if isSp s[pos].toNat then bspan s f (pos + 1) none (match st with | some a => acc ++ [(a, pos)] | none => acc)
      else bspan s f (pos + 1) (some (st.getD pos)) acc
    else (acc, st)
theorem bspan_succ (s : ByteArray) (f pos : Nat) (st : Option Nat) (acc : List (Nat × Nat)) : bspan s (f + 1) pos st acc =
    if h : pos < s.size then
      if isSp s[pos].toNat then bspan s f (pos + 1) none (match st with | some a => acc ++ [(a, pos)] | none => acc)
      else bspan s f (pos + 1) (some (st.getD pos)) acc
    else (acc, st) := rfl
theorem bspan_end (s : ByteArray) (f pos : Nat) (st : Option Nat) (acc : List (Nat × Nat)) (h : ¬ pos < s.size) : bspan s f pos st acc = (acc, st) := by
  cases f with
  | zero => rfl
  | succ f => simp [bspan, h]
theorem bspan_fuel (s : ByteArray) : ∀ (f g pos : Nat) (st : Option Nat) (acc : List (Nat × Nat)), s.size ≤ pos + f → s.size ≤ pos + g → bspan s f pos st acc = bspan s g pos st acc := by
  intro f
  induction f with
  | zero => intro g pos st acc h1 _; rw [bspan_end _ _ _ _ _ (by omega), bspan_end _ _ _ _ _ (by omega)]
  | succ f ih =>
    intro g pos st acc h1 h2
    by_cases hp : pos < s.size
    · cases g with
      | zero => omega
      | succ g =>
        rw [bspan_succ, bspan_succ, dif_pos hp, dif_pos hp]
        split <;> exact ih _ _ _ _ (by omega) (by omega)
    · rw [bspan_end _ _ _ _ _ hp, bspan_end _ _ _ _ _ hp]
theorem bspan_skip (s : ByteArray) : ∀ (k f pos : Nat) (st : Option Nat) (acc : List (Nat × Nat)), pos + k ≤ s.size → (∀ j, (h : pos + j < s.size) → j < k → isSp (s[pos + j]).toNat = false) → 0 < k →
    bspan s (f + k) pos st acc = bspan s f (pos + k) (some (st.getD pos)) acc := by
  intro k
  induction k with
  | zero => intro _ _ _ _ _ _ h; omega
  | succ k ih =>
    intro f pos st acc hk hno _
    have h0 := hno 0 (by omega) (by omega)
    have h0' : isSp (s[pos]'(by omega)).toNat = false := h0
    rw [show f + (k + 1) = (f + k) + 1 from by omega, bspan_succ, dif_pos (by omega), h0', if_neg (by simp)]
    by_cases hz : k = 0
    · subst hz; rfl
    · rw [ih f (pos + 1) (some (st.getD pos)) acc (by omega) (fun j h hj => by
        have := hno (j + 1) (by omega) (by omega)
        have e : pos + (j + 1) = pos + 1 + j := by omega
        simp only [e] at this
        exact this) (by omega)]
      simp only [Option.getD_some]
      congr 1
      omega
def pSp (x : Nat) : Bool := decide (x < 128) && isSp x

/-- the bytes that a rune takes are all no white space, if its first is none of the first 128 -/
theorem cont_high (s : ByteArray) (pos : Nat) (h : pos < s.size) (ha : 128 ≤ (s[pos]'h).toNat) : pos + (Utf8.decode s pos).2 ≤ s.size ∧ ∀ j, (hj : pos + j < s.size) → j < (Utf8.decode s pos).2 → 128 ≤ (s[pos + j]'hj).toNat := by
  have hg : ∀ j, (hj : pos + j < s.size) → (s.get! (pos + j)).toNat = (s[pos + j]'hj).toNat := fun j hj => by
    rw [show s.get! (pos + j) = s[pos + j]'hj from by simp [ByteArray.get!, getElem!_pos, hj]; rfl]
  have h0 : 128 ≤ (s.get! (pos + 0)).toNat := by rw [hg 0 (by omega)]; exact ha
  have hc : ∀ j, (decide (pos + j < s.size) && (s.get! (pos + j)).toNat / 64 == 2) = true → pos + j < s.size ∧ 128 ≤ (s.get! (pos + j)).toNat := fun j hj => by
    simp only [Bool.and_eq_true, decide_eq_true_eq, beq_iff_eq] at hj
    exact ⟨hj.1, by omega⟩
  unfold Utf8.decode
  simp only
  rw [if_neg (by omega)]
  have one : ∀ j, (hj : pos + j < s.size) → j < 1 → 128 ≤ (s[pos + j]'hj).toNat := fun j hj h1 => by
    obtain rfl : j = 0 := by omega
    exact ha
  split
  · rename_i h1
    simp only [Bool.and_eq_true] at h1
    have c1 := hc 1 (by simpa using h1.2)
    split
    · refine ⟨by simp only; omega, fun j hj h2 => ?_⟩
      rw [← hg j hj]
      have : j = 0 ∨ j = 1 := by simp only at h2; omega
      rcases this with rfl | rfl
      · exact h0
      · exact c1.2
    · exact ⟨by simp only; omega, one⟩
  · split
    · rename_i h1
      simp only [Bool.and_eq_true] at h1
      have c1 := hc 1 (by simpa using h1.1.2)
      have c2 := hc 2 (by simpa using h1.2)
      split
      · refine ⟨by simp only; omega, fun j hj h2 => ?_⟩
        rw [← hg j hj]
        have : j = 0 ∨ j = 1 ∨ j = 2 := by simp only at h2; omega
        rcases this with rfl | rfl | rfl
        · exact h0
        · exact c1.2
        · exact c2.2
      · exact ⟨by simp only; omega, one⟩
    · split
      · rename_i h1
        simp only [Bool.and_eq_true] at h1
        have c1 := hc 1 (by simpa using h1.1.1.2)
        have c2 := hc 2 (by simpa using h1.1.2)
        have c3 := hc 3 (by simpa using h1.2)
        split
        · refine ⟨by simp only; omega, fun j hj h2 => ?_⟩
          rw [← hg j hj]
          have : j = 0 ∨ j = 1 ∨ j = 2 ∨ j = 3 := by simp only at h2; omega
          rcases this with rfl | rfl | rfl | rfl
          · exact h0
          · exact c1.2
          · exact c2.2
          · exact c3.2
        · exact ⟨by simp only; omega, one⟩
      · exact ⟨by simp only; omega, one⟩
theorem isSp_high (n : Nat) (h : 128 ≤ n) : isSp n = false := by simp [isSp]; omega
theorem spansFromP_succ (p : Nat → Bool) (s : ByteArray) (f pos : Nat) (st : Option Nat) (acc : List (Nat × Nat)) : Lib.spansFromP p s (f + 1) pos st acc =
    if pos < s.size then
      (if p (Utf8.decode s pos).1 then
        (match st with
         | some a => Lib.spansFromP p s f (pos + (Utf8.decode s pos).2) none (acc ++ [(a, pos)])
         | none => Lib.spansFromP p s f (pos + (Utf8.decode s pos).2) none acc)
       else
        (match st with
         | some a => Lib.spansFromP p s f (pos + (Utf8.decode s pos).2) (some a) acc
         | none => Lib.spansFromP p s f (pos + (Utf8.decode s pos).2) (some pos) acc))
    else (acc, st) := rfl
theorem spans_bytes (s : ByteArray) : ∀ (f g pos : Nat) (st : Option Nat) (acc : List (Nat × Nat)), s.size ≤ pos + f → s.size ≤ pos + g → Lib.spansFromP pSp s f pos st acc = bspan s g pos st acc := by
  intro f
  induction f with
  | zero => intro g pos st acc h1 _; rw [Lib.spansFromP_end _ _ _ _ _ _ (by omega), bspan_end _ _ _ _ _ (by omega)]
  | succ f ih =>
    intro g pos st acc h1 h2
    by_cases hp : pos < s.size
    · rw [spansFromP_succ, if_pos hp]
      by_cases ha : (s[pos]'hp).toNat < 128
      · have hd := decode_ascii s pos hp ha
        rw [hd]
        simp only
        cases g with
        | zero => omega
        | succ g =>
          rw [bspan_succ, dif_pos hp]
          have hps : pSp (s[pos]'hp).toNat = isSp (s[pos]'hp).toNat := by simp [pSp, ha]
          rw [hps]
          split
          · cases st <;> exact ih _ _ _ _ (by omega) (by omega)
          · cases st <;> exact ih _ _ _ _ (by omega) (by omega)
      · have hh := decode_high s pos hp (by omega)
        obtain ⟨hw, hc⟩ := cont_high s pos hp (by omega)
        have hps : pSp (Utf8.decode s pos).1 = false := by simp [pSp]; omega
        rw [hps, if_neg (by simp)]
        generalize (Utf8.decode s pos).2 = k at *
        have hb := bspan_skip s k (s.size - pos - k) pos st acc hw (fun j hj hjk => isSp_high _ (hc j hj hjk)) (by omega)
        rw [bspan_fuel s g (s.size - pos - k + k) pos st acc h2 (by omega), hb]
        cases st <;> exact ih _ _ _ _ (by omega) (by omega)
    · rw [Lib.spansFromP_end _ _ _ _ _ _ hp, bspan_end _ _ _ _ _ hp]
/-- the parts, out of the places -/
def cutAt (s : ByteArray) (x : Nat × Nat) : List UInt8 := (s.data.toList.drop x.1).take (x.2 - x.1)
def curOf (s : ByteArray) (pos : Nat) : Option Nat → List UInt8
  | none => []
  | some a => cutAt s (a, pos)
theorem bspan_flds (s : ByteArray) : ∀ (f pos : Nat) (st : Option Nat) (acc : List (Nat × Nat)), s.size ≤ pos + f → pos ≤ s.size → (∀ a, st = some a → a < pos) →
    (Lib.closeSpans s (bspan s f pos st acc)).map (cutAt s) = flds (s.data.toList.drop pos) (curOf s pos st) (acc.map (cutAt s)) := by
  intro f
  induction f with
  | zero =>
    intro pos st acc h1 h2 h3
    have : pos = s.size := by omega
    subst this
    rw [List.drop_eq_nil_of_le (by simp), flds]
    cases st with
    | none => simp [bspan, Lib.closeSpans, curOf, addF]
    | some a =>
      have := h3 a rfl
      have hne : cutAt s (a, s.size) ≠ [] := by
        intro e; have := congrArg List.length e; simp [cutAt] at this; omega
      simp [bspan, Lib.closeSpans, curOf, addF, hne]
  | succ f ih =>
    intro pos st acc h1 h2 h3
    by_cases hp : pos < s.size
    · rw [bspan_succ, dif_pos hp, drop_at s pos hp, flds]
      split
      · rw [ih _ _ _ (by omega) (by omega) (by intro a e; cases e)]
        cases st with
        | none => simp [curOf, addF]
        | some a =>
          have := h3 a rfl
          have hne : cutAt s (a, pos) ≠ [] := by
            intro e; have := congrArg List.length e; simp [cutAt] at this; omega
          simp [curOf, addF, hne]
      · rw [ih _ _ _ (by omega) (by omega) (by intro a e; cases e; cases st with | none => simp | some b => have := h3 b rfl; simp; omega)]
        congr 1
        cases st with
        | none =>
          simp only [curOf, cutAt, Option.getD_none, List.nil_append]
          rw [drop_at s pos hp, show pos + 1 - pos = 1 from by omega]; simp
        | some a =>
          have := h3 a rfl
          simp only [curOf, cutAt, Option.getD_some]
          have e : pos + 1 - a = (pos - a) + 1 := by omega
          rw [e, List.take_succ_eq_append_getElem (by simp; omega)]
          congr 1
          rw [List.getElem_drop]
          have e2 : a + (pos - a) = pos := by omega
          simp only [e2]
          rfl
    · have : pos = s.size := by omega
      subst this
      rw [bspan_end _ _ _ _ _ hp, List.drop_eq_nil_of_le (by simp), flds]
      cases st with
      | none => simp [Lib.closeSpans, curOf, addF]
      | some a =>
        have := h3 a rfl
        have hne : cutAt s (a, s.size) ≠ [] := by
          intro e; have := congrArg List.length e; simp [cutAt] at this; omega
        simp [Lib.closeSpans, curOf, addF, hne]
theorem goFields_fields (s : ByteArray) : (Lib.goFieldsP pSp s).map Value.string = strC (fields s.data.toList) := by
  have h := bspan_flds s s.size 0 none [] (by omega) (by omega) (by intro a e; cases e)
  rw [← spans_bytes s s.size s.size 0 none [] (by omega) (by omega)] at h
  unfold Lib.goFieldsP Lib.spansOfP strC fields
  simp only [List.drop_zero, curOf, List.map_nil] at h
  rw [← h, List.map_map, List.map_map]
  refine List.map_congr_left (fun x _ => ?_)
  simp only [Function.comp, cutAt]
  rw [ext_mid]
end Go.Proofs.YtdjpnncehlmehaaDoor
