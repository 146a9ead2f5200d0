/- The reference's Decode, in plain words. -/
import Derived.Test.YtoehakekjlebdaaGreatDoorZGc
namespace Go.Proofs.YtoehakekjlebdaaGreatDoor
open Go.RowKit

theorem al2_whole {α : Type} {p : Pr α} {f : Rc → α × Rc} (h : Al2 p f) (t : List UInt8) : whole p t = if (f ⟨t, true⟩).2.fine then some (f ⟨t, true⟩).1 else none := by
  unfold whole
  cases hp : p t with
  | none => rw [h.none t hp]; rfl
  | some y =>
    obtain ⟨x, q⟩ := y
    rw [h.some t x q hp]
    cases q with
    | nil => rfl
    | cons a b => rfl
def rkSn2 : Rc → Sn × Rc := rkThen (rkInts 1) fun n => rkThen rkText fun a => rkThen rkTexts fun ch => rkThen rkSgs fun p => rkThen (rk (rdParts rdHo) []) fun c => rkRet ⟨n.getD 0 0, a, Sl.of ch, Sl.of p, Sl.of c⟩
theorem al2_sn2 : Al2 rdSn rkSn2 := al2_then (al2_rk _ _) fun _ => al2_then (al2_rk _ _) fun _ => al2_then (al2_rk _ _) fun _ => al2_then (al2_rk _ _) fun _ => al2_then (al2_rk _ _) fun _ => al2_ret _
theorem rkSn_alt (r : Rc) : rkSn r = rkSn2 r ∨ ((rkSn r).2 = Rc.fail ∧ (rkSn2 r).2 = Rc.fail) := by
  obtain ⟨n, r0, h0⟩ : ∃ t s', rkInts 1 r = (t, s') := ⟨_, _, rfl⟩
  obtain ⟨a, r1, h1⟩ : ∃ t s', rkText r0 = (t, s') := ⟨_, _, rfl⟩
  obtain ⟨c, r2, h2⟩ : ∃ t s', rkTexts r1 = (t, s') := ⟨_, _, rfl⟩
  obtain ⟨p, r3, h3⟩ : ∃ t s', rkSgs r2 = (t, s') := ⟨_, _, rfl⟩
  unfold rkSn rkSn2 rkThen rkRet
  simp only [h0, h1, h2, h3]
  obtain ⟨s, b⟩ := r3
  cases b with
  | false => exact Or.inl rfl
  | true =>
    unfold rkTexts rk rdParts
    simp only [if_true]
    cases h : rdTexts s with
    | none => exact Or.inl rfl
    | some y =>
      obtain ⟨l, q⟩ := y
      simp only
      cases many rdHo l with
      | none => exact Or.inr ⟨rfl, rfl⟩
      | some hs => exact Or.inl rfl
theorem al2_sn : Al2 rdSn rkSn where
  bad := by
    rcases rkSn_alt Rc.fail with h | h
    · rw [h]; exact al2_sn2.bad
    · exact h.1
  none s hn := by
    rcases rkSn_alt ⟨s, true⟩ with h | h
    · rw [h]; exact al2_sn2.none s hn
    · exact h.1
  some s x r hn := by
    have h9 := al2_sn2.some s x r hn
    rcases rkSn_alt ⟨s, true⟩ with h | h
    · rw [h]; exact h9
    · have h8 := h.2
      rw [h9] at h8
      have h7 : (true : Bool) = false := congrArg Rc.ok h8
      cases h7
/-- the pieces of a message, as they lie in the text -/
structure Raw where
  n : List Int
  a : List UInt8
  g : Sg
  l1 : List (List UInt8)
  l2 : List (List UInt8)
  t : List UInt8
  tx : List (List UInt8)
def Raw.ms (y : Raw) (ss : List St) (es : List De) (x : Sn) : Ms := ⟨y.n.getD 0 0, y.n.getD 1 0, y.n.getD 2 0, y.n.getD 3 0, y.n.getD 4 0, y.a, y.n.getD 5 0, y.g, Sl.of ss, Sl.of es, x, Sl.of y.tx⟩
def rdRaw : Pr Raw := (rdInts 6).then fun n => rdText.then fun a => (rdPart rdSg).then fun g => rdTexts.then fun l1 => rdTexts.then fun l2 => rdText.then fun t => rdTexts.then fun tx => Pr.ret ⟨n, a, g, l1, l2, t, tx⟩
def rkRaw : Rc → Raw × Rc := rkThen (rkInts 6) fun n => rkThen rkText fun a => rkThen rkOne fun g => rkThen rkTexts fun l1 => rkThen rkTexts fun l2 => rkThen rkText fun t => rkThen rkTexts fun tx => rkRet ⟨n, a, g, l1, l2, t, tx⟩
theorem al2_raw : Al2 rdRaw rkRaw := al2_then (al2_rk _ _) fun _ => al2_then (al2_rk _ _) fun _ => al2_then (al2_rk _ _) fun _ => al2_then (al2_rk _ _) fun _ => al2_then (al2_rk _ _) fun _ => al2_then (al2_rk _ _) fun _ => al2_then (al2_rk _ _) fun _ => al2_ret _
theorem rdMs_raw (s : List UInt8) : rdMs s = match rdRaw s with
    | none => none
    | some (y, q) => match many rdSt y.l1 with
      | none => none
      | some ss => match many rdDe y.l2 with
        | none => none
        | some es => match whole rdSn y.t with
          | none => none
          | some x => some (y.ms ss es x, q) := by
  unfold rdMs rdRaw Pr.then Pr.ret
  cases rdInts 6 s with
  | none => rfl
  | some y0 =>
  obtain ⟨n, q0⟩ := y0
  simp only
  cases rdText q0 with
  | none => rfl
  | some y1 =>
  obtain ⟨a, q1⟩ := y1
  simp only
  cases rdPart rdSg q1 with
  | none => rfl
  | some y2 =>
  obtain ⟨g, q2⟩ := y2
  simp only [rdParts]
  cases rdTexts q2 with
  | none => rfl
  | some y3 =>
  obtain ⟨l1, q3⟩ := y3
  simp only
  cases h4 : rdTexts q3 with
  | none => cases many rdSt l1 <;> simp [h4]
  | some y4 =>
  obtain ⟨l2, q4⟩ := y4
  simp only [rdPart]
  cases h5 : rdText q4 with
  | none => cases hs : many rdSt l1 <;> cases he : many rdDe l2 <;> simp [h4, h5, he]
  | some y5 =>
  obtain ⟨t, q5⟩ := y5
  simp only
  cases h6 : rdTexts q5 with
  | none => cases hs : many rdSt l1 <;> cases he : many rdDe l2 <;> cases hx : whole rdSn t <;> simp [h4, h5, h6, he, hx]
  | some y6 =>
  obtain ⟨tx, q6⟩ := y6
  cases hs : many rdSt l1 <;> cases he : many rdDe l2 <;> cases hx : whole rdSn t <;> simp [h4, h5, h6, hs, he, hx, Raw.ms]
/-- statuses that are right -/
def allD : List (List UInt8) → Option (List St)
  | [] => some []
  | t :: r => match decSt t with
    | none => none
    | some x => match allD r with
      | none => none
      | some l => some (x :: l)
theorem allD_many (l : List (List UInt8)) : match many rdSt l with
    | none => allD l = none
    | some ss => allD l = if (ss.all fun x => vSt x == 0) = true then some ss else none := by
  induction l with
  | nil => rfl
  | cons t r ih =>
    unfold many allD decSt
    cases h : whole rdSt t with
    | none => rfl
    | some x =>
      simp only
      cases h2 : many rdSt r with
      | none =>
        rw [h2] at ih
        simp only at ih ⊢
        by_cases hv : vSt x = 0
        · rw [if_pos hv, ih]
        · rw [if_neg hv]
      | some ss =>
        rw [h2] at ih
        simp only at ih ⊢
        by_cases hv : vSt x = 0
        · rw [if_pos hv, ih]
          simp only [List.all_cons, hv, beq_self_eq_true, Bool.true_and]
          split
          · next h3 => split at h3 <;> simp_all
          · next l h3 => split at h3 <;> simp_all
        · rw [if_neg hv]
          simp [hv]
theorem vMs_st {m : Ms} (h : vMs m = 0) : (m.statuses.l.all fun x => vSt x == 0) = true := by
  unfold vMs at h
  split at h
  · simp at h
  split at h
  · simp at h
  split at h
  · simp at h
  split at h
  · simp at h
  split at h
  · simp at h
  next h1 h2 =>
  simp only [Bool.not_eq_false, rangesB, lengthsB, Bool.and_eq_true, List.all_eq_true] at h1 h2
  rw [List.all_eq_true]
  intro x hx
  unfold vSt
  rw [if_neg (by rw [h1.1.1.1 x hx]; simp), if_neg (by rw [h2.1.1.1.1.1.2 x hx]; simp)]
  rfl
theorem decMs_eq (s : List UInt8) {n : List Int} {a t : List UInt8} {g : Sg} {l1 l2 tx : List (List UInt8)} {x : Sn} {r0 r1 r2 r3 r4 r5 r6 r7 : Rc}
    (h0 : rkInts 6 ⟨s, true⟩ = (n, r0)) (h1 : rkText r0 = (a, r1)) (h2 : rkOne r1 = (g, r2)) (h3 : rkTexts r2 = (l1, r3)) (h4 : rkTexts r3 = (l2, r4)) (h5 : rkText r4 = (t, r5)) (h6 : rkSn ⟨t, r5.ok⟩ = (x, r6)) (h7 : rkTexts r5 = (tx, r7)) :
    decMs s = match allD l1 with
      | none => none
      | some ss => match many rdDe l2 with
        | none => none
        | some es => if (r7.fine && r6.fine && decide (vMs (Raw.ms ⟨n, a, g, l1, l2, t, tx⟩ ss es x) = 0)) = true then some (Raw.ms ⟨n, a, g, l1, l2, t, tx⟩ ss es x) else none := by
  have hr : rkRaw ⟨s, true⟩ = (⟨n, a, g, l1, l2, t, tx⟩, r7) := by
    unfold rkRaw rkThen rkRet
    simp only [h0, h1, h2, h3, h4, h5, h7]
  unfold decMs whole
  rw [rdMs_raw]
  cases hp : rdRaw s with
  | none =>
    have h9 := al2_raw.none s hp
    rw [hr] at h9
    have h8 : r7 = Rc.fail := h9
    have hf : r7.fine = false := by rw [h8]; rfl
    simp only [hf, Bool.false_and]
    cases allD l1 <;> cases many rdDe l2 <;> simp
  | some z =>
    obtain ⟨y, q⟩ := z
    have h9 := al2_raw.some s y q hp
    rw [hr] at h9
    obtain ⟨rfl, rfl⟩ := Prod.mk.inj h9
    have h5k : r5.ok = true := by
      cases h : r5.ok with
      | true => rfl
      | false =>
        unfold rkTexts rk at h7
        rw [if_neg (by rw [h]; simp)] at h7
        have := congrArg Rc.ok (Prod.mk.inj h7).2
        cases this
    rw [h5k] at h6
    have hw := al2_whole al2_sn t
    rw [h6] at hw
    simp only at hw ⊢
    rw [hw]
    have hm := allD_many l1
    cases hs : many rdSt l1 with
    | none => rw [hs] at hm; simp only at hm; rw [hm]
    | some ss =>
      rw [hs] at hm
      simp only at hm ⊢
      cases many rdDe l2 with
      | none => simp only; rw [hm]; split <;> rfl
      | some es =>
        simp only
        cases hx : r6.fine with
        | false => rw [hm]; simp only [Bool.and_false, Bool.false_and]; by_cases hq : (ss.all fun x => vSt x == 0) = true <;> simp [hq]
        | true =>
          simp only [if_true]
          have hq7 : Rc.fine ⟨q, true⟩ = decide (q = []) := by cases q <;> rfl
          rw [hq7]
          by_cases hqe : q = []
          · rw [if_pos hqe]
            simp only [hqe, decide_true, Bool.true_and, decide_eq_true_eq]
            by_cases hv : vMs (Raw.ms ⟨n, a, g, l1, l2, t, tx⟩ ss es x) = 0
            · have h8 := vMs_st hv
              have h8' : (ss.all fun x => vSt x == 0) = true := h8
              rw [if_pos hv, hm, if_pos h8']
              simp only
              rw [if_pos hv]
            · rw [if_neg hv, hm]
              by_cases hq : (ss.all fun x => vSt x == 0) = true
              · rw [if_pos hq]; simp only; rw [if_neg hv]
              · rw [if_neg hq]
          · rw [if_neg hqe, hm]
            by_cases hq : (ss.all fun x => vSt x == 0) = true <;> simp [hq, hqe]
/-- all the pieces of a list -/
def allO {α : Type} (D : List UInt8 → Option α) : List (List UInt8) → Option (List α)
  | [] => some []
  | t :: r => match D t with
    | none => none
    | some x => match allO D r with
      | none => none
      | some l => some (x :: l)
theorem many_allO {α : Type} (p : Pr α) (l : List (List UInt8)) : many p l = allO (whole p) l := by
  induction l with
  | nil => rfl
  | cons t r ih =>
    simp only [many, allO, ih]
    cases whole p t with
    | none => rfl
    | some x => cases allO (whole p) r <;> rfl
theorem allD_allO (l : List (List UInt8)) : allD l = allO decSt l := by
  induction l with
  | nil => rfl
  | cons t r ih =>
    simp only [allD, allO, ih]
    cases decSt t with
    | none => rfl
    | some x => cases allO decSt r <;> rfl
/-- the state of a loop that decodes texts and appends what they say to a field of a struct -/
structure LpSt {α : Type} (T : TypeId) (k : Nat) (C : α → List Value) (er : α → α) (ok : α → World → Prop) (D : List UInt8 → Option α) (a b5 : Nat) (W0 : World → Prop) (l : List (List UInt8)) (j : Nat) (o : Value) (xs : List α) (B : Nat) (F : Nat → Prop) (wr : World) : Prop where
  len : xs.length = j
  own : wr.ownsRow B T k o j (xs.flatMap C)
  size : B ≤ wr.heap.size
  foot : Foot F (fun W => W0 W ∧ ∀ y ∈ xs, ok y W) wr
  fin : ∀ i, F i → a ≤ i ∧ i < wr.heap.size ∧ i ≠ b5 ∧ o.ownBlock ≠ some i
  all : allO D l = match allO D (l.drop j) with
    | none => none
    | some ys => some (xs.map er ++ ys)
section
variable {α : Type} {T : TypeId} {k : Nat} {C : α → List Value} {er : α → α} {ok : α → World → Prop} {D : List UInt8 → Option α} {a b5 : Nat} {W0 : World → Prop} {l : List (List UInt8)}
theorem LpSt.start {u : World} (h : Held a b5 W0 u) : ∃ F, LpSt T k C er ok D a b5 W0 l 0 (.slice none 0 0) [] u.heap.size F u := by
  obtain ⟨F, h1, h2⟩ := h
  refine ⟨F, rfl, World.ownsRow_nil _ _ _ _, Nat.le_refl _, fun w' a b => ⟨h1 w' a b, by simp⟩, fun i hi => ⟨(h2 i hi).1, (h2 i hi).2.1, (h2 i hi).2.2, by simp [Value.ownBlock]⟩, ?_⟩
  rw [List.drop_zero]
  cases allO D l <;> rfl
theorem LpSt.step {wr wa w2 : World} {j : Nat} {o v' : Value} {xs : List α} {B u : Nat} {F : Nat → Prop} {x : α}
    (h : LpSt T k C er ok D a b5 W0 l j o xs B F wr) (hB : b5 < B) (hw : a ≤ B) (hb : Below wr.heap.size wr wa) (hj : j < l.length) (hx : D l[j] = some (er x)) (hu : wr.heap.size ≤ u) (hst : Stays u (ok x) wa)
    (hown : w2.ownsRow B T k v' (j + 1) (xs.flatMap C ++ C x)) (hgr : wa.grownBy w2 o.ownBlock) (hat : v'.ownBlock = o.ownBlock ∨ v'.ownBlock = some wa.heap.size) (off : Nat) :
    LpSt T k C er ok D a b5 W0 l (j + 1) v' (xs ++ [x]) B (fun i => F i ∨ (u ≤ i ∧ i < wa.heap.size)) (w2.setCell ⟨b5, off, none⟩ v') := by
  have z1 := hb.size
  have z2 := hgr.size
  have z3 := h.size
  have hok : ∀ b, o.ownBlock = some b → B ≤ b ∧ b < wr.heap.size := fun b hb => h.own.lt b hb
  have hset : ∀ k, k ≠ b5 → (w2.setCell ⟨b5, off, none⟩ v').heap[k]? = w2.heap[k]? := fun k hk => heap_setCell_other w2 ⟨b5, off, none⟩ k v' (fun e => by first | exact hk e | exact hk e.symm)
  have hsz : (w2.setCell ⟨b5, off, none⟩ v').heap.size = w2.heap.size := by simp
  have h23 : ∀ k, k < wa.heap.size → o.ownBlock ≠ some k → k ≠ b5 → (w2.setCell ⟨b5, off, none⟩ v').heap[k]? = wa.heap[k]? := fun k hk hne hn5 => (hset k hn5).trans (hgr.block k hk (fun e => hne e.symm))
  have hF : ∀ i, F i → (w2.setCell ⟨b5, off, none⟩ v').heap[i]? = wr.heap[i]? := fun i hi => by
    obtain ⟨a1, a2, a3, a4⟩ := h.fin i hi
    exact (h23 i (by omega) a4 a3).trans (hb.block i a2)
  refine ⟨by simp [h.len], ?_, by omega, ?_, ?_, ?_⟩
  · rw [List.flatMap_append, show [x].flatMap C = C x from by simp]
    refine hown.kept (grown_set w2 ⟨b5, off, none⟩ v') ?_
    cases ho : v'.ownBlock with
    | none => exact .inl rfl
    | some b =>
      have := (hown.lt b ho).1
      exact .inr (fun e => by simp only [Option.some.injEq] at e; omega)
  · refine ((h.foot.on (by omega) hF).mono (fun i hi => Or.inl hi)).imp2 (Q := ok x) (((foot_stays hst).on (by omega) (fun i hi => h23 i hi.2 (fun e => by have := (hok i e).2; have := hi.1; omega) (by have := hi.1; omega))).mono (fun i hi => Or.inr hi)) (fun w' a b => ⟨a.1, fun y hy => ?_⟩)
    rcases List.mem_append.1 hy with hy | hy
    · exact a.2 y hy
    · rw [List.mem_singleton] at hy; subst hy; exact b
  · intro i hi
    rcases hi with hi | ⟨a1, a2⟩
    · obtain ⟨b1, b2, b3, b4⟩ := h.fin i hi
      refine ⟨b1, by omega, b3, ?_⟩
      rcases hat with e | e
      · rw [e]; exact b4
      · rw [e]; intro e2; simp only [Option.some.injEq] at e2; omega
    · refine ⟨by omega, by omega, by omega, ?_⟩
      rcases hat with e | e
      · rw [e]; intro e2; have := (hok i e2).2; omega
      · rw [e]; intro e2; simp only [Option.some.injEq] at e2; omega
  · rw [h.all, List.drop_eq_getElem_cons hj, allO, hx]
    simp only
    cases allO D (l.drop (j + 1)) with
    | none => rfl
    | some ys => simp
theorem LpSt.vr {wr wa w2 : World} {b j : Nat} {cs : List Value} {o : Value} {xs : List α} {B : Nat} {F : Nat → Prop}
    (h : LpSt T k C er ok D a b5 W0 l j o xs B F wr) (hb : Below wr.heap.size wr wa) (hgr : wa.grownBy w2 o.ownBlock) (hv : Vr wr b cs) (hbB : b < B) : Vr w2 b cs := by
  have hv1 := hv.below hb
  cases ho : o.ownBlock with
  | none => rw [ho] at hgr; exact hv1.below ⟨hgr.os, hgr.tape, hgr.output, hgr.size, fun i hi => hgr.block i hi (by simp)⟩
  | some q =>
    rw [ho] at hgr
    exact hv1.grown hgr (by have := (h.own.lt q ho).1; omega)
theorem LpSt.low {w wr wa w2 : World} {j : Nat} {o v' : Value} {xs : List α} {B : Nat} {F : Nat → Prop}
    (h : LpSt T k C er ok D a b5 W0 l j o xs B F wr) (hB : b5 < B) (h5 : w.heap.size ≤ b5) (hw : Below w.heap.size w wr) (hb : Below wr.heap.size wr wa) (hgr : wa.grownBy w2 o.ownBlock) (off : Nat) : Below w.heap.size w (w2.setCell ⟨b5, off, none⟩ v') := by
  have h1 := bon hw hb
  have h2 : Below w.heap.size w w2 := below_grown h1 h1.size hgr (fun g hg => by have := (h.own.lt g hg).1; omega)
  exact below_gr h2 (grown_set w2 ⟨b5, off, none⟩ v') h5
theorem LpSt.held {j : Nat} {o : Value} {xs : List α} {B : Nat} {F : Nat → Prop} {wr : World} (h : LpSt T k C er ok D a b5 W0 l j o xs B F wr) : Held a b5 (fun W => W0 W ∧ ∀ y ∈ xs, ok y W) wr :=
  ⟨F, h.foot, fun i hi => ⟨(h.fin i hi).1, (h.fin i hi).2.1, (h.fin i hi).2.2.1⟩⟩
theorem held_rowG {a b4 B k n : Nat} {T : TypeId} {A : Option Addr} {c : Nat} {xs : List Value} {W : World} (h : W.ownsRow B T k (.slice A n c) n xs) (ha : a ≤ B) (hb : b4 < B) : Held a b4 (fun W => Rd W k A n xs) W := by
  refine ⟨fun i => Value.ownBlock (.slice A n c) = some i, fun w' hs hk => ?_, fun i hi => ⟨by have := (h.lt i hi).1; omega, (h.lt i hi).2, by have := (h.lt i hi).1; omega⟩⟩
  refine Rd.own (base := B) (e := T) (c := c) ⟨h.1, ?_⟩
  rcases h.2 with h1 | ⟨g, cap, cur, hv, hge, hg, rest⟩
  · exact .inl h1
  · exact .inr ⟨g, cap, cur, hv, hge, (hk g (by rw [hv]; rfl)).trans hg, rest⟩
end
theorem whole_raw (s : List UInt8) {n : List Int} {a t : List UInt8} {g : Sg} {l1 l2 tx : List (List UInt8)} {x : Sn} {r0 r1 r2 r3 r4 r5 r6 r7 : Rc} {ss : List St} {es : List De}
    (h0 : rkInts 6 ⟨s, true⟩ = (n, r0)) (h1 : rkText r0 = (a, r1)) (h2 : rkOne r1 = (g, r2)) (h3 : rkTexts r2 = (l1, r3)) (h4 : rkTexts r3 = (l2, r4)) (h5 : rkText r4 = (t, r5)) (h6 : rkSn ⟨t, r5.ok⟩ = (x, r6)) (h7 : rkTexts r5 = (tx, r7))
    (hs : allD l1 = some ss) (he : many rdDe l2 = some es) (f7 : r7.fine = true) (f6 : r6.fine = true) : whole rdMs s = some (Raw.ms ⟨n, a, g, l1, l2, t, tx⟩ ss es x) := by
  have hr : rkRaw ⟨s, true⟩ = (⟨n, a, g, l1, l2, t, tx⟩, r7) := by
    unfold rkRaw rkThen rkRet
    simp only [h0, h1, h2, h3, h4, h5, h7]
  unfold whole
  rw [rdMs_raw]
  cases hp : rdRaw s with
  | none =>
    have h9 := al2_raw.none s hp
    rw [hr] at h9
    have h8 : r7 = Rc.fail := h9
    rw [h8] at f7
    cases f7
  | some z =>
    obtain ⟨y, q⟩ := z
    have h9 := al2_raw.some s y q hp
    rw [hr] at h9
    obtain ⟨rfl, rfl⟩ := Prod.mk.inj h9
    have h5k : r5.ok = true := by
      cases h : r5.ok with
      | true => rfl
      | false =>
        unfold rkTexts rk at h7
        rw [if_neg (by rw [h]; simp)] at h7
        have := congrArg Rc.ok (Prod.mk.inj h7).2
        cases this
    rw [h5k] at h6
    have hw := al2_whole al2_sn t
    rw [h6] at hw
    simp only at hw ⊢
    rw [f6, if_pos rfl] at hw
    rw [hw, he]
    have hm := allD_many l1
    cases hss : many rdSt l1 with
    | none => rw [hss] at hm; simp only at hm; rw [hm] at hs; cases hs
    | some s9 =>
      rw [hss] at hm
      simp only at hm ⊢
      rw [hm] at hs
      have hq : q = [] := by cases q with | nil => rfl | cons a b => cases f7
      by_cases hb : (s9.all fun x => vSt x == 0) = true
      · rw [if_pos hb] at hs
        obtain rfl := Option.some.inj hs
        rw [if_pos hq]
      · rw [if_neg hb] at hs; cases hs
end Go.Proofs.YtoehakekjlebdaaGreatDoor
/- The reference's Decode. -/
namespace Go.Proofs.YtoehakekjlebdaaGreatDoor
open Go.RowKit

theorem decS2_none {P : Program} {f : FuncId} {args : Array Value} {o : Option St} {w : World} (h : Calls P f args w (RetDecS2 o w)) (ho : o = none) :
    Calls P f args w fun e w' => e = .returned (.tuple #[.agg #[.int .i64 0, .int .i64 0, .int .i64 0, .int .i64 0, .string ⟨#[]⟩, .slice none 0 0, .int .i64 0, .int .i64 0, .int .i64 0, .int .i64 0, .string ⟨#[]⟩, .string ⟨#[]⟩], .int .i64 2]) ∧ Below w.heap.size w w' :=
  h.mono fun _ _ hh => by
    subst ho
    exact ⟨hh.2, hh.1⟩
theorem decS2_some {P : Program} {f : FuncId} {args : Array Value} {o : Option St} {w : World} {m : St} (h : Calls P f args w (RetDecS2 o w)) (ho : o = some m) :
    Calls P f args w fun e w' => ∃ x : St, x.er = m ∧ e = .returned (.tuple #[.agg #[.int .i64 x.server, .int .i64 x.view, .int .i64 x.length, .int .i64 x.lockView, .string ⟨x.lock.toArray⟩, .slice x.cert.a x.cert.l.length x.cert.c, .int .i64 x.signed.server, .int .i64 x.signed.kind, .int .i64 x.signed.view, .int .i64 x.signed.slot, .string ⟨x.signed.digest.toArray⟩, .string ⟨x.signed.sig.toArray⟩], .int .i64 0]) ∧ Stays w.heap.size (x.ok) w' ∧ Below w.heap.size w w' :=
  h.mono fun _ _ hh => by
    subst ho
    obtain ⟨hb, x, hx, he, hk⟩ := hh
    exact ⟨x, hx, he, hk, hb⟩
set_option maxRecDepth 100000 in
set_option maxHeartbeats 16000000 in
theorem refDecode_any (s : List UInt8) (w : World) (hl0 : s.length ≤ 16777216) :
    Calls Tryz.prog 18 #[.string ⟨s.toArray⟩] w (RetDecM (decMs s) w) := by
  obtain ⟨r, hr⟩ : ∃ r, r = (⟨s, true⟩ : Rc) := ⟨_, rfl⟩
  have hl : r.s.length ≤ 16777216 := by rw [hr]; exact hl0
  have HTn := rkInts_ok 6 r
  obtain ⟨n0, n1, n2, n3, n4, n5, hn⟩ := six_of _ HTn.1
  obtain ⟨r0, hr0⟩ : ∃ r0, r0 = (rkInts 6 r).2 := ⟨_, rfl⟩
  have HT0 : Hid (rkInts 6 r = ([n0, n1, n2, n3, n4, n5], r0)) := Lib.hid (by rw [hr0, ← hn])
  have HN64 : Hid (∀ x ∈ [n0, n1, n2, n3, n4, n5], I64 x) := Lib.hid (by rw [← hn]; exact HTn.2)
  have HL0 : Hid (r0.s.length ≤ 16777216) := Lib.hid (by rw [hr0]; exact Nat.le_trans (rkInts_len 6 r) hl)
  clear HTn hn hr0
  obtain ⟨t1, r1, ht1⟩ : ∃ t s', rkText r0 = (t, s') := ⟨_, _, rfl⟩
  have HL1 : Hid (r1.s.length ≤ 16777216) := Lib.hid (by have h9 := rkText_len2 r0; rw [ht1] at h9; exact Nat.le_trans h9 HL0.out)
  have HTL1 : Hid (t1.length ≤ 16777216) := Lib.hid (by have h9 := (rkText_len r0).1; rw [ht1] at h9; exact Nat.le_trans h9 HL0.out)
  have HT1 := Lib.hid ht1
  clear ht1
  obtain ⟨t2, r2, ht2⟩ : ∃ t s', rkOne r1 = (t, s') := ⟨_, _, rfl⟩
  have HL2 : Hid (r2.s.length ≤ 16777216) := Lib.hid (by have h9 := rkOne_len r1; rw [ht2] at h9; exact Nat.le_trans h9 HL1.out)
  have HT2 := Lib.hid ht2
  clear ht2
  obtain ⟨t3, r3, ht3⟩ : ∃ t s', rkTexts r2 = (t, s') := ⟨_, _, rfl⟩
  have HL3 : Hid (r3.s.length ≤ 16777216) := Lib.hid (by have h9 := rkTexts_len2 r2; rw [ht3] at h9; exact Nat.le_trans h9 HL2.out)
  have HTL3 : Hid (sum szS t3 ≤ 16777216) := Lib.hid (by have h9 := (rkTexts_len r2).1; rw [ht3] at h9; exact Nat.le_trans h9 HL2.out)
  have HT3 := Lib.hid ht3
  clear ht3
  obtain ⟨t4, r4, ht4⟩ : ∃ t s', rkTexts r3 = (t, s') := ⟨_, _, rfl⟩
  have HL4 : Hid (r4.s.length ≤ 16777216) := Lib.hid (by have h9 := rkTexts_len2 r3; rw [ht4] at h9; exact Nat.le_trans h9 HL3.out)
  have HTL4 : Hid (sum szS t4 ≤ 16777216) := Lib.hid (by have h9 := (rkTexts_len r3).1; rw [ht4] at h9; exact Nat.le_trans h9 HL3.out)
  have HT4 := Lib.hid ht4
  clear ht4
  obtain ⟨t5, r5, ht5⟩ : ∃ t s', rkText r4 = (t, s') := ⟨_, _, rfl⟩
  have HL5 : Hid (r5.s.length ≤ 16777216) := Lib.hid (by have h9 := rkText_len2 r4; rw [ht5] at h9; exact Nat.le_trans h9 HL4.out)
  have HTL5 : Hid (t5.length ≤ 16777216) := Lib.hid (by have h9 := (rkText_len r4).1; rw [ht5] at h9; exact Nat.le_trans h9 HL4.out)
  have HT5 := Lib.hid ht5
  clear ht5
  obtain ⟨t6, r6, ht6⟩ : ∃ t s', rkTexts r5 = (t, s') := ⟨_, _, rfl⟩
  have HL6 : Hid (r6.s.length ≤ 16777216) := Lib.hid (by have h9 := rkTexts_len2 r5; rw [ht6] at h9; exact Nat.le_trans h9 HL5.out)
  have HTL6 : Hid (sum szS t6 ≤ 16777216) := Lib.hid (by have h9 := (rkTexts_len r5).1; rw [ht6] at h9; exact Nat.le_trans h9 HL5.out)
  have HT6 := Lib.hid ht6
  clear ht6
  subst hr
  obtain ⟨xsn, q0, hx0⟩ : ∃ x q, rkSn ⟨t5, r5.ok⟩ = (x, q) := ⟨_, _, rfl⟩
  have HTX := Lib.hid hx0
  clear hx0
  have HSpec := Lib.hid (decMs_eq s HT0.out HT1.out HT2.out HT3.out HT4.out HT5.out HTX.out HT6.out)
  have ht3 : t3.length ≤ 16777216 := by have h8 := sum_ge szS t3 1 szS_ge; have h9 := HTL3.out; omega
  have ht4 : t4.length ≤ 16777216 := by have h8 := sum_ge szS t4 1 szS_ge; have h9 := HTL4.out; omega
  have HWR : Hid (∀ ss es, allD t3 = some ss → many rdDe t4 = some es → r6.fine = true → q0.fine = true → (Raw.ms ⟨[n0, n1, n2, n3, n4, n5], t1, t2, t3, t4, t5, t6⟩ ss es xsn).sz ≤ 16777216) := Lib.hid (fun ss es hs he f7 f6 => Nat.le_trans (whole_sz rdMs_sz (whole_raw s HT0.out HT1.out HT2.out HT3.out HT4.out HT5.out HTX.out HT6.out hs he f7 f6)) hl0)
  obtain ⟨wa, hwa⟩ : ∃ wa, wa = w.alloc (.cells (msC ms0).toArray 36) := ⟨_, rfl⟩
  have HV : Hid (Vr wa w.heap.size (msC ms0)) := Lib.hid (by rw [hwa]; exact Vr.new w (msC ms0) 36)
  have HB : Hid (Below w.heap.size w wa) := Lib.hid (by rw [hwa]; exact below_new _ _)
  have HZa : Hid (wa.heap.size = w.heap.size + 1) := Lib.hid (by rw [hwa]; simp)
  go_enter Tryz.func18, Tryz.ntmps18
  go_upto_region 1 with fail
  change Code.wp _ _ _ _ (w.alloc (.cells (msC ms0).toArray 36))
  rw [← hwa]
  clear hwa
  go_wp2_with fail
  refine (refInts6_any ⟨s, true⟩ wa (Nat.le_trans hl (by decide))).mono ?_
  rintro e u1 ⟨A, c, he, hst0, hb⟩
  rw [HT0.out] at he hst0
  obtain rfl : e = .returned (.tuple #[.slice A 6 c, .agg (rcC r0).toArray]) := he
  rw [HZa.out] at hst0
  have h3 := hb.size
  rw [HZa.out] at h3
  have HV := Lib.hid ((HV.out.below hb).below (below_new u1 (.cells (rcC Rc.fail).toArray 63)))
  have HB := Lib.hid (bon (bon HB.out hb) (below_new u1 (.cells (rcC Rc.fail).toArray 63)))
  have HRo := Lib.hid (Vr.new u1 (rcC Rc.fail) 63)
  have HN := Lib.hid (hst0.on (keeps_row2 (keeps_below _ (below_new u1 (.cells (rcC Rc.fail).toArray 63))) (grown_vs (b := u1.heap.size) (rcC r0)) (Or.inr (Nat.le_refl _))))
  have HV := Lib.hid (HV.out.grown (grown_vs (b := u1.heap.size) (rcC r0)) (by omega))
  have HB := Lib.hid (below_gr HB.out (grown_vs (b := u1.heap.size) (rcC r0)) (by omega))
  have HR := Lib.hid (HRo.out.sets (rcC r0) rfl)
  clear hb hst0
  go_upto_region 2 with (refine wpList_store_mid rfl 63 _ _ rfl u1.heap.size 0 (rcC r0).toArray rfl rfl ?_ (infoRc r0) (rcC_one r0) ?_; · exact HRo.out.there (n := 2) rfl)
  try simp only [List.toList_toArray]
  clear HRo
  change Code.wp _ _ _ _ ((u1.alloc (.cells (rcC Rc.fail).toArray 63)).setCells u1.heap.size 0 (rcC r0))
  generalize (u1.alloc (.cells (rcC Rc.fail).toArray 63)).setCells u1.heap.size 0 (rcC r0) = u2 at HR HV HB HN ⊢
  generalize hbR : u1.heap.size = bR at HR h3 ⊢
  clear hbR
  go_wp2_with fail
  refine wp_region_noPanic ?_
  have HR := Lib.hid (HR.out.below (Below.refl _ _).drew)
  have HV := Lib.hid (HV.out.below (Below.refl _ _).drew)
  have HB := Lib.hid (HB.out.drew)
  have HN := Lib.hid (HN.out.on (keeps_below _ (Below.refl _ _).drew))
  generalize hv : u2.drew = v at HR HV HB HN
  obtain ⟨b, off, hA, hbl, hcc⟩ := ints_cells HN.out.out (by simp)
  subst hA
  have HCW : Hid (∀ W, Keeps (w.heap.size + 1) v W → W.cell? ⟨b, off, none⟩ = some (.int .i64 n0) ∧ W.cell? ⟨b, off + 1, none⟩ = some (.int .i64 n1) ∧ W.cell? ⟨b, off + 2, none⟩ = some (.int .i64 n2) ∧ W.cell? ⟨b, off + 3, none⟩ = some (.int .i64 n3) ∧ W.cell? ⟨b, off + 4, none⟩ = some (.int .i64 n4) ∧ W.cell? ⟨b, off + 5, none⟩ = some (.int .i64 n5)) := Lib.hid (fun W hW => by
    obtain ⟨b2, o2, hA2, _, hc2⟩ := ints_cells (HN.out W hW) (by simp)
    simp only [Option.some.injEq, Addr.mk.injEq] at hA2
    obtain ⟨rfl, rfl, _⟩ := hA2
    exact ⟨hc2 0 _ rfl, hc2 1 _ rfl, hc2 2 _ rfl, hc2 3 _ rfl, hc2 4 _ rfl, hc2 5 _ rfl⟩)
  have hC := HCW.out v (Keeps.refl _ _)
  clear hcc hbl HN
  refine wp_region_held_drew (S := fun W => W.cell? ⟨b, off, none⟩ = some (.int .i64 n0) ∧ W.cell? ⟨b, off + 1, none⟩ = some (.int .i64 n1) ∧ W.cell? ⟨b, off + 2, none⟩ = some (.int .i64 n2) ∧ W.cell? ⟨b, off + 3, none⟩ = some (.int .i64 n3) ∧ W.cell? ⟨b, off + 4, none⟩ = some (.int .i64 n4) ∧ W.cell? ⟨b, off + 5, none⟩ = some (.int .i64 n5)) (by kernel_rfl) (by rw [hv]; exact hC) (fun hHeld => ?_)
  rw [hv] at hHeld ⊢
  clear hv
  have h5 : bR < v.heap.size := HR.out.lt
  refine wpAnyH_take (i := 0) (oi := _) (v := ?_) rfl (by kernel_rfl) (by kernel_rfl) (by kernel_rfl) (fun _ _ _ h => h) (Or.inl ⟨by rfl, ?_⟩) (by assumption) ?_
  rotate_left
  · intro W hSw; (try dsimp only at hSw); go_simp; try with_reducible rfl
  try simp only [Act.put, List.setIfInBounds_toArray, List.set_cons_zero, List.set_cons_succ, List.getElem_toArray, List.getElem_cons_zero]
  refine wpAnyH_take (i := 1) (oi := _) (v := ?_) rfl (by kernel_rfl) (by kernel_rfl) (by kernel_rfl) (fun _ _ _ h => h) (Or.inl ⟨by rfl, ?_⟩) (by assumption) ?_
  rotate_left
  · intro W hSw; (try dsimp only at hSw); go_simp; try with_reducible rfl
  try simp only [Act.put, List.setIfInBounds_toArray, List.set_cons_zero, List.set_cons_succ, List.getElem_toArray, List.getElem_cons_succ, List.getElem_cons_zero]
  refine wpAnyH_take (i := 2) (oi := _) (v := ?_) rfl (by kernel_rfl) (by kernel_rfl) (by kernel_rfl) (fun _ _ _ h => h) (Or.inl ⟨by rfl, ?_⟩) (by assumption) ?_
  rotate_left
  · intro W hSw; (try dsimp only at hSw); go_simp; try with_reducible rfl
  try simp only [Act.put, List.setIfInBounds_toArray, List.set_cons_zero, List.set_cons_succ, List.getElem_toArray, List.getElem_cons_succ, List.getElem_cons_zero]
  refine wpAnyH_take (i := 3) (oi := _) (v := ?_) rfl (by kernel_rfl) (by kernel_rfl) (by kernel_rfl) (fun _ _ _ h => h) (Or.inl ⟨by rfl, ?_⟩) (by assumption) ?_
  rotate_left
  · intro W hSw; (try dsimp only at hSw); go_simp; try with_reducible rfl
  try simp only [Act.put, List.setIfInBounds_toArray, List.set_cons_zero, List.set_cons_succ, List.getElem_toArray, List.getElem_cons_succ, List.getElem_cons_zero]
  refine wpAnyH_take (i := 4) (oi := _) (v := ?_) rfl (by kernel_rfl) (by kernel_rfl) (by kernel_rfl) (fun _ _ _ h => h) (Or.inl ⟨by rfl, ?_⟩) (by assumption) ?_
  rotate_left
  · intro W hSw; (try dsimp only at hSw); go_simp; try with_reducible rfl
  try simp only [Act.put, List.setIfInBounds_toArray, List.set_cons_zero, List.set_cons_succ, List.getElem_toArray, List.getElem_cons_succ, List.getElem_cons_zero]
  refine wpAnyH_take (i := 5) (oi := _) (v := ?_) rfl (by kernel_rfl) (by kernel_rfl) (by kernel_rfl) (fun _ _ _ h => h) (Or.inl ⟨by rfl, ?_⟩) (by assumption) ?_
  rotate_left
  · intro W hSw; (try dsimp only at hSw); go_simp; try with_reducible rfl
  try simp only [Act.put, List.setIfInBounds_toArray, List.set_cons_zero, List.set_cons_succ, List.getElem_toArray, List.getElem_cons_succ, List.getElem_cons_zero]
  refine wpAnyH_take (i := 6) (oi := _) (v := ?_) rfl (by kernel_rfl) (by kernel_rfl) (by kernel_rfl) (fun _ _ _ h => h) (Or.inl ⟨by rfl, ?_⟩) (by assumption) ?_
  rotate_left
  · intro W hSw; (try dsimp only at hSw); go_simp; try with_reducible rfl
  try simp only [Act.put, List.setIfInBounds_toArray, List.set_cons_zero, List.set_cons_succ, List.getElem_toArray, List.getElem_cons_succ, List.getElem_cons_zero]
  refine wpAnyH_take (i := 7) (oi := _) (v := ?_) rfl (by kernel_rfl) (by kernel_rfl) (by kernel_rfl) (fun _ _ _ h => h) (Or.inl ⟨by rfl, ?_⟩) (by assumption) ?_
  rotate_left
  · intro W hSw; (try dsimp only at hSw); go_simp; try with_reducible rfl
  try simp only [Act.put, List.setIfInBounds_toArray, List.set_cons_zero, List.set_cons_succ, List.getElem_toArray, List.getElem_cons_succ, List.getElem_cons_zero]
  refine wpAnyH_take (i := 8) (oi := _) (v := ?_) rfl (by kernel_rfl) (by kernel_rfl) (by kernel_rfl) (fun _ _ _ h => h) (Or.inl ⟨by rfl, ?_⟩) (by assumption) ?_
  rotate_left
  · intro W hSw; (try dsimp only at hSw); go_simp; try with_reducible rfl
  try simp only [Act.put, List.setIfInBounds_toArray, List.set_cons_zero, List.set_cons_succ, List.getElem_toArray, List.getElem_cons_succ, List.getElem_cons_zero]
  refine wpAnyH_take (i := 9) (oi := _) (v := ?_) rfl (by kernel_rfl) (by kernel_rfl) (by kernel_rfl) (fun _ _ _ h => h) (Or.inl ⟨by rfl, ?_⟩) (by assumption) ?_
  rotate_left
  · intro W hSw; (try dsimp only at hSw); go_simp; try with_reducible rfl
  try simp only [Act.put, List.setIfInBounds_toArray, List.set_cons_zero, List.set_cons_succ, List.getElem_toArray, List.getElem_cons_succ, List.getElem_cons_zero]
  refine wpAnyH_take (i := 10) (oi := _) (v := ?_) rfl (by kernel_rfl) (by kernel_rfl) (by kernel_rfl) (fun _ _ _ h => h) (Or.inl ⟨by rfl, ?_⟩) (by assumption) ?_
  rotate_left
  · intro W hSw; (try dsimp only at hSw); go_simp; try with_reducible rfl
  try simp only [Act.put, List.setIfInBounds_toArray, List.set_cons_zero, List.set_cons_succ, List.getElem_toArray, List.getElem_cons_succ, List.getElem_cons_zero]
  refine wpAnyH_take (i := 11) (oi := _) (v := ?_) rfl (by kernel_rfl) (by kernel_rfl) (by kernel_rfl) (fun _ _ _ h => h) (Or.inl ⟨by rfl, ?_⟩) (by assumption) ?_
  rotate_left
  · intro W hSw; (try dsimp only at hSw); go_simp; try with_reducible rfl
  try simp only [Act.put, List.setIfInBounds_toArray, List.set_cons_zero, List.set_cons_succ, List.getElem_toArray, List.getElem_cons_succ, List.getElem_cons_zero]
  refine wpAnyH_take (i := 12) (oi := _) (v := ?_) rfl (by kernel_rfl) (by kernel_rfl) (by kernel_rfl) (fun _ _ _ h => h) (Or.inl ⟨by rfl, ?_⟩) (by assumption) ?_
  rotate_left
  · intro W hSw; (try dsimp only at hSw); go_simp; try with_reducible rfl
  try simp only [Act.put, List.setIfInBounds_toArray, List.set_cons_zero, List.set_cons_succ, List.getElem_toArray, List.getElem_cons_succ, List.getElem_cons_zero]
  refine wpAnyH_take (i := 13) (oi := _) (v := ?_) rfl (by kernel_rfl) (by kernel_rfl) (by kernel_rfl) (fun _ _ _ h => h) (Or.inl ⟨by rfl, ?_⟩) (by assumption) ?_
  rotate_left
  · intro W hSw; (try dsimp only at hSw); go_simp; try with_reducible rfl
  try simp only [Act.put, List.setIfInBounds_toArray, List.set_cons_zero, List.set_cons_succ, List.getElem_toArray, List.getElem_cons_succ, List.getElem_cons_zero]
  refine wpAnyH_take (i := 14) (oi := _) (v := ?_) rfl (by kernel_rfl) (by kernel_rfl) (by kernel_rfl) (fun _ _ _ h => h) (Or.inl ⟨by rfl, ?_⟩) (by assumption) ?_
  rotate_left
  · intro W hSw; (try dsimp only at hSw); go_simp; try with_reducible rfl
  try simp only [Act.put, List.setIfInBounds_toArray, List.set_cons_zero, List.set_cons_succ, List.getElem_toArray, List.getElem_cons_succ, List.getElem_cons_zero]
  refine wpAnyH_take (i := 15) (oi := _) (v := ?_) rfl (by kernel_rfl) (by kernel_rfl) (by kernel_rfl) (fun _ _ _ h => h) (Or.inl ⟨by rfl, ?_⟩) (by assumption) ?_
  rotate_left
  · intro W hSw; (try dsimp only at hSw); go_simp; try with_reducible rfl
  try simp only [Act.put, List.setIfInBounds_toArray, List.set_cons_zero, List.set_cons_succ, List.getElem_toArray, List.getElem_cons_succ, List.getElem_cons_zero]
  refine wpAnyH_take (i := 16) (oi := _) (v := ?_) rfl (by kernel_rfl) (by kernel_rfl) (by kernel_rfl) (fun _ _ _ h => h) (Or.inl ⟨by rfl, ?_⟩) (by assumption) ?_
  rotate_left
  · intro W hSw; (try dsimp only at hSw); go_simp; try with_reducible rfl
  try simp only [Act.put, List.setIfInBounds_toArray, List.set_cons_zero, List.set_cons_succ, List.getElem_toArray, List.getElem_cons_succ, List.getElem_cons_zero]
  refine wpAnyH_take (i := 17) (oi := _) (v := ?_) rfl (by kernel_rfl) (by kernel_rfl) (by kernel_rfl) (fun _ _ _ h => h) (Or.inl ⟨by rfl, ?_⟩) (by assumption) ?_
  rotate_left
  · intro W hSw; (try dsimp only at hSw); go_simp; try with_reducible rfl
  try simp only [Act.put, List.setIfInBounds_toArray, List.set_cons_zero, List.set_cons_succ, List.getElem_toArray, List.getElem_cons_succ, List.getElem_cons_zero]
  refine wpAnyH_take (i := 18) (oi := _) (v := ?_) rfl (by kernel_rfl) (by kernel_rfl) (by kernel_rfl) (fun _ _ _ h => h) (Or.inl ⟨by rfl, ?_⟩) (by assumption) ?_
  rotate_left
  · intro W hSw; (try dsimp only at hSw); go_simp; try with_reducible rfl
  try simp only [Act.put, List.setIfInBounds_toArray, List.set_cons_zero, List.set_cons_succ, List.getElem_toArray, List.getElem_cons_succ, List.getElem_cons_zero]
  refine wpAnyH_ready (rs := [19]) (by kernel_rfl) (by simp) ?_
  refine AllReadyH.cons (o := _) rfl (fun K hK => ?_) AllReadyH.nil
  go_simp
  have HX : Hid (Vr (v.alloc (.cells #[.int .i64 0, .int .i64 0, .int .i64 0, .int .i64 0, .int .i64 0, .string ⟨#[]⟩, .int .i64 0, .int .i64 0, .int .i64 0, .int .i64 0, .int .i64 0, .string ⟨#[]⟩, .string ⟨#[]⟩, .slice none 0 0, .slice none 0 0, .int .i64 0, .string ⟨#[]⟩, .slice none 0 0, .slice none 0 0, .slice none 0 0, .slice none 0 0] 36)) v.heap.size [.int .i64 0, .int .i64 0, .int .i64 0, .int .i64 0, .int .i64 0, .string ⟨#[]⟩, .int .i64 0, .int .i64 0, .int .i64 0, .int .i64 0, .int .i64 0, .string ⟨#[]⟩, .string ⟨#[]⟩, .slice none 0 0, .slice none 0 0, .int .i64 0, .string ⟨#[]⟩, .slice none 0 0, .slice none 0 0, .slice none 0 0, .slice none 0 0]) := Lib.hid (Vr.new _ _ _)
  have HR := Lib.hid (HR.out.below (below_new v (.cells #[.int .i64 0, .int .i64 0, .int .i64 0, .int .i64 0, .int .i64 0, .string ⟨#[]⟩, .int .i64 0, .int .i64 0, .int .i64 0, .int .i64 0, .int .i64 0, .string ⟨#[]⟩, .string ⟨#[]⟩, .slice none 0 0, .slice none 0 0, .int .i64 0, .string ⟨#[]⟩, .slice none 0 0, .slice none 0 0, .slice none 0 0, .slice none 0 0] 36)))
  have HV := Lib.hid (HV.out.below (below_new v (.cells #[.int .i64 0, .int .i64 0, .int .i64 0, .int .i64 0, .int .i64 0, .string ⟨#[]⟩, .int .i64 0, .int .i64 0, .int .i64 0, .int .i64 0, .int .i64 0, .string ⟨#[]⟩, .string ⟨#[]⟩, .slice none 0 0, .slice none 0 0, .int .i64 0, .string ⟨#[]⟩, .slice none 0 0, .slice none 0 0, .slice none 0 0, .slice none 0 0] 36)))
  have HB := Lib.hid (bon HB.out (below_new v (.cells #[.int .i64 0, .int .i64 0, .int .i64 0, .int .i64 0, .int .i64 0, .string ⟨#[]⟩, .int .i64 0, .int .i64 0, .int .i64 0, .int .i64 0, .int .i64 0, .string ⟨#[]⟩, .string ⟨#[]⟩, .slice none 0 0, .slice none 0 0, .int .i64 0, .string ⟨#[]⟩, .slice none 0 0, .slice none 0 0, .slice none 0 0, .slice none 0 0] 36)))
  have HK := Lib.hid (keeps_below (w.heap.size + 1) (below_new v (.cells #[.int .i64 0, .int .i64 0, .int .i64 0, .int .i64 0, .int .i64 0, .string ⟨#[]⟩, .int .i64 0, .int .i64 0, .int .i64 0, .int .i64 0, .int .i64 0, .string ⟨#[]⟩, .string ⟨#[]⟩, .slice none 0 0, .slice none 0 0, .int .i64 0, .string ⟨#[]⟩, .slice none 0 0, .slice none 0 0, .slice none 0 0, .slice none 0 0] 36)))
  generalize v.alloc (.cells #[.int .i64 0, .int .i64 0, .int .i64 0, .int .i64 0, .int .i64 0, .string ⟨#[]⟩, .int .i64 0, .int .i64 0, .int .i64 0, .int .i64 0, .int .i64 0, .string ⟨#[]⟩, .string ⟨#[]⟩, .slice none 0 0, .slice none 0 0, .int .i64 0, .string ⟨#[]⟩, .slice none 0 0, .slice none 0 0, .slice none 0 0, .slice none 0 0] 36) = v2 at HX HR HV HB HK ⊢
  have hC2 := HCW.out v2 HK.out
  generalize hq5 : v.heap.size = b5 at HX h5 ⊢
  have hb5 : v.heap.size ≤ b5 := Nat.le_of_eq hq5
  clear hq5
  refine hK.out _ _ hC2 (fun hHeld => ?_)
  clear hK K
  try simp only [Act.put, List.setIfInBounds_toArray, List.set_cons_zero, List.set_cons_succ, List.getElem_toArray, List.getElem_cons_succ, List.getElem_cons_zero]
  refine wpAnyH_ready (rs := [20]) (by kernel_rfl) (by simp) ?_
  refine AllReadyH.cons (o := _) rfl (fun K hK => ?_) AllReadyH.nil
  rw [if_pos (by rfl)]
  refine wp_store_mid 36 _ _ rfl b5 0 (msC ⟨n0, n1, n2, n3, n4, [], n5, sg0, Sl.nil, Sl.nil, ⟨0, [], Sl.nil, Sl.nil, Sl.nil⟩, Sl.nil⟩).toArray rfl rfl (HX.out.there rfl) (infoMsn ⟨n0, n1, n2, n3, n4, [], n5, sg0, Sl.nil, Sl.nil, ⟨0, [], Sl.nil, Sl.nil, Sl.nil⟩, Sl.nil⟩) (msC_one' ⟨n0, n1, n2, n3, n4, [], n5, sg0, Sl.nil, Sl.nil, ⟨0, [], Sl.nil, Sl.nil, Sl.nil⟩, Sl.nil⟩) ?_
  try simp only []
  have HR := Lib.hid (HR.out.grown (grown_vs (b := b5) (msC ⟨n0, n1, n2, n3, n4, [], n5, sg0, Sl.nil, Sl.nil, ⟨0, [], Sl.nil, Sl.nil, Sl.nil⟩, Sl.nil⟩)) (by omega))
  have HV := Lib.hid (HV.out.grown (grown_vs (b := b5) (msC ⟨n0, n1, n2, n3, n4, [], n5, sg0, Sl.nil, Sl.nil, ⟨0, [], Sl.nil, Sl.nil, Sl.nil⟩, Sl.nil⟩)) (by omega))
  have HX := Lib.hid (HX.out.sets (msC ⟨n0, n1, n2, n3, n4, [], n5, sg0, Sl.nil, Sl.nil, ⟨0, [], Sl.nil, Sl.nil, Sl.nil⟩, Sl.nil⟩) rfl)
  have HB := Lib.hid (below_gr HB.out (grown_vs (b := b5) (msC ⟨n0, n1, n2, n3, n4, [], n5, sg0, Sl.nil, Sl.nil, ⟨0, [], Sl.nil, Sl.nil, Sl.nil⟩, Sl.nil⟩)) (by omega))
  have hC3 := HCW.out _ (keeps_row2 HK.out (grown_vs (b := b5) (msC ⟨n0, n1, n2, n3, n4, [], n5, sg0, Sl.nil, Sl.nil, ⟨0, [], Sl.nil, Sl.nil, Sl.nil⟩, Sl.nil⟩)) (Or.inr hb5))
  generalize v2.setCells b5 0 (msC ⟨n0, n1, n2, n3, n4, [], n5, sg0, Sl.nil, Sl.nil, ⟨0, [], Sl.nil, Sl.nil, Sl.nil⟩, Sl.nil⟩) = u3 at HR HV HX HB hC3 ⊢
  refine hK.out _ _ hC3 (fun hHeld => ?_)
  clear hK K
  try simp only [Act.put, List.getElem_toArray, List.getElem_cons_succ, List.getElem_cons_zero]
  refine wpAnyH_done (by kernel_rfl) ?_ _
  refine NoPanic.normal ?_
  clear hC hC2 hC3 HK HCW hb5
  go_wp2_with (refine wpList_load_mid rfl 63 _ rfl bR 0 rfl (rcC r0) _ HR.out.range Tryz.underlying63 rfl (infoRc r0) ?_)
  refine (refText_any r0 _ (Nat.le_trans HL0.out (by decide))).mono ?_
  rintro e u4 ⟨he, hb⟩
  rw [HT1.out] at he
  obtain rfl : e = .returned (.tuple #[.string ⟨t1.toArray⟩, .agg (rcC r1).toArray]) := he
  have HR := Lib.hid (HR.out.below hb)
  have HX := Lib.hid (HX.out.below hb)
  have HV := Lib.hid (HV.out.below hb)
  have HB := Lib.hid (bon HB.out hb)
  clear hb
  have cx := HX.out.cells 5 _ rfl
  have fx := HX.out.free 5 (of_decide_eq_true rfl)
  have lx := HX.out.lt
  have HR := Lib.hid (HR.out.grown (grown_set u4 ⟨b5, 5, none⟩ (.string ⟨t1.toArray⟩)) (by show bR ≠ b5; omega))
  have HX := Lib.hid ((HX.out.set 5 (.string ⟨t1.toArray⟩)).eq (cs' := [.int .i64 n0, .int .i64 n1, .int .i64 n2, .int .i64 n3, .int .i64 n4, .string ⟨t1.toArray⟩, .int .i64 n5, .int .i64 0, .int .i64 0, .int .i64 0, .int .i64 0, .string ⟨#[]⟩, .string ⟨#[]⟩, .slice none 0 0, .slice none 0 0, .int .i64 0, .string ⟨#[]⟩, .slice none 0 0, .slice none 0 0, .slice none 0 0, .slice none 0 0]) rfl)
  have HV := Lib.hid (HV.out.grown (grown_set u4 ⟨b5, 5, none⟩ (.string ⟨t1.toArray⟩)) (by show w.heap.size ≠ b5; omega))
  have HB := Lib.hid (below_gr HB.out (grown_set u4 ⟨b5, 5, none⟩ (.string ⟨t1.toArray⟩)) (by show w.heap.size ≤ b5; omega))
  have HRo := HR
  have HR := Lib.hid (HR.out.sets (rcC r1) rfl)
  have HX := Lib.hid (HX.out.grown (grown_vs (w := (u4.setCell ⟨b5, 5, none⟩ (.string ⟨t1.toArray⟩))) (b := bR) (rcC r1)) (by show b5 ≠ bR; omega))
  have HV := Lib.hid (HV.out.grown (grown_vs (w := (u4.setCell ⟨b5, 5, none⟩ (.string ⟨t1.toArray⟩))) (b := bR) (rcC r1)) (by show w.heap.size ≠ bR; omega))
  have HB := Lib.hid (below_gr HB.out (grown_vs (w := (u4.setCell ⟨b5, 5, none⟩ (.string ⟨t1.toArray⟩))) (b := bR) (rcC r1)) (by show w.heap.size ≤ bR; omega))
  go_upto_region 4 with (first | (refine wpList_store_mid rfl 63 _ _ rfl bR 0 (rcC r1).toArray rfl rfl ?_ (infoRc r1) (rcC_one r1) ?_; · exact HRo.out.there (n := 2) rfl))
  try simp only [List.toList_toArray]
  clear HRo cx fx lx
  generalize ((u4.setCell ⟨b5, 5, none⟩ (.string ⟨t1.toArray⟩)).setCells bR 0 (rcC r1)) = u5 at HR HX HV HB ⊢
  go_wp2_with (refine wpList_load_mid rfl 63 _ rfl bR 0 rfl (rcC r1) _ HR.out.range Tryz.underlying63 rfl (infoRc r1) ?_)
  refine (refOne_any r1 _ (Nat.le_trans HL1.out (by decide))).mono ?_
  rintro e u6 ⟨x2, he, hx, hst, hb⟩
  rw [HT2.out] at he hx
  obtain rfl : e = .returned (.tuple #[.agg #[.int .i64 x2.server, .int .i64 x2.kind, .int .i64 x2.view, .int .i64 x2.slot, .string ⟨x2.digest.toArray⟩, .string ⟨x2.sig.toArray⟩], .agg (rcC r2).toArray]) := he
  have HE2 := Lib.hid hx
  have HK2 := Lib.hid hst.out
  clear hx hst
  have HR := Lib.hid (HR.out.below hb)
  have HX := Lib.hid (HX.out.below hb)
  have HV := Lib.hid (HV.out.below hb)
  have HB := Lib.hid (bon HB.out hb)
  clear hb
  have HXo := HX
  have HR := Lib.hid (HR.out.grown (grown_vs_at (w := u6) (b := b5) (o := 7) (sgC x2)) (by show bR ≠ b5; omega))
  have HX := Lib.hid ((HX.out.sets_at 7 (sgC x2) (of_decide_eq_true rfl)).eq (cs' := [.int .i64 n0, .int .i64 n1, .int .i64 n2, .int .i64 n3, .int .i64 n4, .string ⟨t1.toArray⟩, .int .i64 n5, .int .i64 x2.server, .int .i64 x2.kind, .int .i64 x2.view, .int .i64 x2.slot, .string ⟨x2.digest.toArray⟩, .string ⟨x2.sig.toArray⟩, .slice none 0 0, .slice none 0 0, .int .i64 0, .string ⟨#[]⟩, .slice none 0 0, .slice none 0 0, .slice none 0 0, .slice none 0 0]) rfl)
  have HV := Lib.hid (HV.out.grown (grown_vs_at (w := u6) (b := b5) (o := 7) (sgC x2)) (by show w.heap.size ≠ b5; omega))
  have HB := Lib.hid (below_gr HB.out (grown_vs_at (w := u6) (b := b5) (o := 7) (sgC x2)) (by show w.heap.size ≤ b5; omega))
  have HRo := HR
  have HR := Lib.hid (HR.out.sets (rcC r2) rfl)
  have HX := Lib.hid (HX.out.grown (grown_vs (w := (u6.setCells b5 7 (sgC x2))) (b := bR) (rcC r2)) (by show b5 ≠ bR; omega))
  have HV := Lib.hid (HV.out.grown (grown_vs (w := (u6.setCells b5 7 (sgC x2))) (b := bR) (rcC r2)) (by show w.heap.size ≠ bR; omega))
  have HB := Lib.hid (below_gr HB.out (grown_vs (w := (u6.setCells b5 7 (sgC x2))) (b := bR) (rcC r2)) (by show w.heap.size ≤ bR; omega))
  go_upto_region 5 with (first | (refine wpList_store_mid rfl 24 _ _ rfl b5 7 (sgC x2).toArray rfl rfl ?_ (infoSgN x2) (sgC_one x2) ?_; · exact HXo.out.there_at 7 6 (of_decide_eq_true rfl)) | (refine wpList_store_mid rfl 63 _ _ rfl bR 0 (rcC r2).toArray rfl rfl ?_ (infoRc r2) (rcC_one r2) ?_; · exact HRo.out.there (n := 2) rfl))
  try simp only [List.toList_toArray]
  clear HRo HXo
  generalize ((u6.setCells b5 7 (sgC x2)).setCells bR 0 (rcC r2)) = u7 at HR HX HV HB ⊢
  go_wp2_with (refine wpList_load_mid rfl 63 _ rfl bR 0 rfl (rcC r2) _ HR.out.range Tryz.underlying63 rfl (infoRc r2) ?_)
  refine (refTexts_any r2 _ (Nat.le_trans HL2.out (by decide))).mono ?_
  rintro e u8 ⟨a3, c3, he, hst, hb⟩
  rw [HT3.out] at he hst
  obtain rfl : e = .returned (.tuple #[.slice a3 t3.length c3, .agg (rcC r3).toArray]) := he
  have HR3 := Lib.hid (held_new (a := b5 + 1) (b4 := b5) hst (by have := HX.out.lt; omega) (Or.inl HX.out.lt))
  have HR := Lib.hid (HR.out.below hb)
  have HX := Lib.hid (HX.out.below hb)
  have HV := Lib.hid (HV.out.below hb)
  have HB := Lib.hid (bon HB.out hb)
  clear hst
  clear hb
  have HRo := HR
  have HR := Lib.hid (HR.out.sets (rcC r3) rfl)
  have HX := Lib.hid (HX.out.grown (grown_vs (w := u8) (b := bR) (rcC r3)) (by show b5 ≠ bR; omega))
  have HV := Lib.hid (HV.out.grown (grown_vs (w := u8) (b := bR) (rcC r3)) (by show w.heap.size ≠ bR; omega))
  have HB := Lib.hid (below_gr HB.out (grown_vs (w := u8) (b := bR) (rcC r3)) (by show w.heap.size ≤ bR; omega))
  have HR3 := Lib.hid (HR3.out.row (grown_vs (w := u8) (b := bR) (rcC r3)) (by show bR < b5 + 1 ∨ bR = b5; omega))
  go_upto_region 6 with (refine wpList_store_mid rfl 63 _ _ rfl bR 0 (rcC r3).toArray rfl rfl ?_ (infoRc r3) (rcC_one r3) ?_; · exact HRo.out.there (n := 2) rfl)
  try simp only [List.toList_toArray]
  clear HRo
  generalize (u8.setCells bR 0 (rcC r3)) = u9 at HR HX HV HB HR3 ⊢
  obtain ⟨i0, hi, hz0, hz1, hz2⟩ := info_parts infoStr
  have HI := Lib.hid hi
  have HZ0 := Lib.hid hz0
  have HZ1 := Lib.hid hz1
  have HZ2 := Lib.hid hz2
  clear hi hz0 hz1 hz2
  obtain ⟨F0, hF0⟩ := LpSt.start (T := 26) (k := 12) (C := stC) (er := St.er) (ok := St.ok) (D := decSt) (l := t3) (W0 := (fun W => Rd W 1 a3 t3.length (strC t3))) HR3.out
  have hB5 := HX.out.lt
  have hB3 : b5 + 1 ≤ u9.heap.size := HX.out.lt
  have HX := Lib.hid (HX.out.eq (cs' := [.int .i64 n0, .int .i64 n1, .int .i64 n2, .int .i64 n3, .int .i64 n4, .string ⟨t1.toArray⟩, .int .i64 n5, .int .i64 x2.server, .int .i64 x2.kind, .int .i64 x2.view, .int .i64 x2.slot, .string ⟨x2.digest.toArray⟩, .string ⟨x2.sig.toArray⟩, .slice none 0 0, .slice none 0 0, .int .i64 0, .string ⟨#[]⟩, .slice none 0 0, .slice none 0 0, .slice none 0 0, .slice none 0 0]) rfl)
  generalize hBe : u9.heap.size = B at hF0 hB5 hB3
  have HF0 := Lib.hid hF0
  clear hBe hF0 HR3
  go_wp2_with fail
  go_loopw [8] (fun i wr => ∃ (j : Nat) (o : Value) (xs : List St) (F : Nat → Prop), i = .int .i64 j ∧ j ≤ t3.length ∧ LpSt 26 12 stC St.er St.ok decSt (b5 + 1) b5 (fun W => Rd W 1 a3 t3.length (strC t3)) t3 j o xs B F wr ∧ Vr wr bR (rcC r3) ∧ Vr wr b5 [.int .i64 n0, .int .i64 n1, .int .i64 n2, .int .i64 n3, .int .i64 n4, .string ⟨t1.toArray⟩, .int .i64 n5, .int .i64 x2.server, .int .i64 x2.kind, .int .i64 x2.view, .int .i64 x2.slot, .string ⟨x2.digest.toArray⟩, .string ⟨x2.sig.toArray⟩, o, .slice none 0 0, .int .i64 0, .string ⟨#[]⟩, .slice none 0 0, .slice none 0 0, .slice none 0 0, .slice none 0 0] ∧ Vr wr w.heap.size (msC ms0) ∧ Below w.heap.size w wr) (fun i _ => t3.length - (intOf i).toNat)
  case atStart => exact ⟨0, _, _, _, rfl, by omega, HF0.out, HR.out, HX.out, HV.out, HB.out⟩
  case round =>
    obtain ⟨j, o, xs, F, rfl, hj, hLp, hR, hX, hV, hB0⟩ := hrel
    have HLp := Lib.hid hLp
    have HR := Lib.hid hR
    have HX := Lib.hid hX
    have HV := Lib.hid hV
    have HB := Lib.hid hB0
    clear hLp hR hX hV hB0
    by_cases hlt1 : j < t3.length
    · have i0' : (0 : Int) ≤ (j : Int) := by omega
      have i1 : (j : Int) < (t3.length : Int) := by omega
      obtain ⟨b, off, hA, hbl, hcc⟩ := Rd.cells (HLp.out.foot.out.1) (by rw [strC_len]; omega)
      subst hA
      obtain ⟨t, ht⟩ : ∃ t, t = t3[j] := ⟨_, rfl⟩
      have a0 : wr.cell? ⟨b, off + j, none⟩ = some (.string ⟨t.toArray⟩) := hcc j _ (by unfold strC; rw [List.getElem?_map, List.getElem?_eq_getElem hlt1, ht]; rfl)
      have htl : t.length ≤ 16777216 := by have h8 := sum_get szS t3 t (ht ▸ List.getElem_mem hlt1); have h9 := HTL3.out; unfold szS at h8 h9; omega
      have HTt := Lib.hid ht
      have HDr : Hid (t3.drop j = t :: t3.drop (j + 1)) := Lib.hid (by rw [List.drop_eq_getElem_cons hlt1, ht])
      clear ht hcc
      have HDS := Lib.hid (refDecodeStatus2_any t wr htl)
      cases hd : decSt t with
      | none =>
        have HY : Hid (decMs s = none) := Lib.hid (by rw [HSpec.out, show allD t3 = none from by rw [allD_allO, HLp.out.all, HDr.out, allO, hd]])
        have HD := Lib.hid hd
        clear hd
        go_wp2_with fail
        refine (decS2_none HDS.out HD.out).mono ?_
        rintro e w2 ⟨rfl, b2⟩
        have HB2 := Lib.hid (bon (bon HB.out b2) (below_new w2 (.cells (stC st0).toArray 26)))
        have HV2 := Lib.hid ((HV.out.below b2).below (below_new w2 (.cells (stC st0).toArray 26)))
        clear b2
        go_upto_region 10 with fail
        change Code.wp _ _ _ _ (w2.alloc (.cells (stC st0).toArray 26))
        generalize w2.alloc (.cells (stC st0).toArray 26) = w3 at HB2 HV2 ⊢
        go_wp2_with (refine wpList_store_mid rfl 36 _ _ rfl w.heap.size 0 (msC ms0).toArray rfl rfl (HV2.out.there rfl) (infoMsn ms0) (msC_one' ms0) ?_)
        refine bodyPost_ret (v := .tuple #[.agg (msC ms0).toArray, .int .i64 2]) ?_ rfl (ret_decM_none HY.out (below_gr HB2.out (grown_vs (b := w.heap.size) (msC ms0)) (Nat.le_refl _)))
        exact results_mid_slot Tryz.results18 _ _ w.heap.size (msC ms0) _ _ rfl rfl (HV2.out.sets (msC ms0) rfl).range Tryz.underlying36 rfl (infoMsn ms0)
      | some m =>
        have HD := Lib.hid hd
        clear hd
        go_wp2_with fail
        refine (decS2_some HDS.out HD.out).mono ?_
        rintro e w2 ⟨x, hx, rfl, hst, b2⟩
        have HBr := Lib.hid (bon b2 (below_new w2 (.cells (stC x).toArray 26)))
        have HS := Lib.hid (hst.on (keeps_below _ (below_new w2 (.cells (stC x).toArray 26))))
        have H9 := Lib.hid (Vr.new w2 (stC x) 26)
        have HDx : Hid (decSt t3[j] = some (St.er x)) := Lib.hid (by rw [← HTt.out, HD.out, hx])
        clear hx hst b2 HDS
        go_upto_region 10 with fail
        change Code.wp _ _ _ _ (w2.alloc (.cells (stC x).toArray 26))
        generalize w2.alloc (.cells (stC x).toArray 26) = w3 at HBr HS H9 ⊢
        generalize w2.heap.size = b9 at H9 ⊢
        clear a0 hbl
        have HO3 := Lib.hid (ownsRow_below HLp.out.own HBr.out)
        have HX3 := Lib.hid (HX.out.below HBr.out)
        have cM := HX3.out.cells 13 _ rfl
        have lM := HX3.out.lt
        have hB9 : B ≤ wr.heap.size := HLp.out.size
        have hB8 := HBr.out.size
        go_wp2_with (first
          | (refine wpList_load_mid rfl 26 _ rfl b9 0 rfl [.int .i64 x.server, .int .i64 x.view, .int .i64 x.length, .int .i64 x.lockView, .string ⟨x.lock.toArray⟩, .slice x.cert.a x.cert.l.length x.cert.c, .int .i64 x.signed.server, .int .i64 x.signed.kind, .int .i64 x.signed.view, .int .i64 x.signed.slot, .string ⟨x.signed.digest.toArray⟩, .string ⟨x.signed.sig.toArray⟩] _ H9.out.range Tryz.underlying26 rfl (infoStn x) ?_)
          | (at_builtin; refine wpList_append_own_at _ rfl _ _ 29 rfl B 26 i0 _ 12 136 Tryz.underlying29 HI.out HZ0.out HZ1.out HZ2.out rfl (by decide) _ _ _ rfl (HO3.out.alloc _) ⟨w3.heap.size, 0, none⟩ 1 1 [.int .i64 x.server, .int .i64 x.view, .int .i64 x.length, .int .i64 x.lockView, .string ⟨x.lock.toArray⟩, .slice x.cert.a x.cert.l.length x.cert.c, .int .i64 x.signed.server, .int .i64 x.signed.kind, .int .i64 x.signed.view, .int .i64 x.signed.slot, .string ⟨x.signed.digest.toArray⟩, .string ⟨x.signed.sig.toArray⟩] rfl rfl (cell_new _ _ _ _ rfl) (by simp [Value.oneCell']) (by simp [maxLen]; omega) (by omega) (by simp; omega) ?_))
        intro v' w4 hown' hgrow _ hat
        obtain ⟨aw, cw, hvw⟩ := ownsRow_form hown'
        subst hvw
        have HBa : Hid (Below wr.heap.size wr (w3.alloc (.cells #[.int .i64 x.server, .int .i64 x.view, .int .i64 x.length, .int .i64 x.lockView, .string ⟨x.lock.toArray⟩, .slice x.cert.a x.cert.l.length x.cert.c, .int .i64 x.signed.server, .int .i64 x.signed.kind, .int .i64 x.signed.view, .int .i64 x.signed.slot, .string ⟨x.signed.digest.toArray⟩, .string ⟨x.signed.sig.toArray⟩] 26))) := Lib.hid (bon HBr.out (below_new _ _))
        have hat2 : (Value.slice aw (j + 1) cw).ownBlock = o.ownBlock ∨ (Value.slice aw (j + 1) cw).ownBlock = some (w3.alloc (.cells #[.int .i64 x.server, .int .i64 x.view, .int .i64 x.length, .int .i64 x.lockView, .string ⟨x.lock.toArray⟩, .slice x.cert.a x.cert.l.length x.cert.c, .int .i64 x.signed.server, .int .i64 x.signed.kind, .int .i64 x.signed.view, .int .i64 x.signed.slot, .string ⟨x.signed.digest.toArray⟩, .string ⟨x.signed.sig.toArray⟩] 26)).heap.size := by simpa using hat
        have HX4 := Lib.hid (HLp.out.vr HBa.out hgrow HX.out hB5)
        have cN := HX4.out.cells 13 _ rfl
        have fN := HX4.out.free 13 (of_decide_eq_true rfl)
        have lN := HX4.out.lt
        have HLp2 := Lib.hid (HLp.out.step (x := x) hB5 hB3 HBa.out hlt1 HDx.out (Nat.le_refl _) (HS.out.on (keeps_below _ (below_new w3 (.cells #[.int .i64 x.server, .int .i64 x.view, .int .i64 x.length, .int .i64 x.lockView, .string ⟨x.lock.toArray⟩, .slice x.cert.a x.cert.l.length x.cert.c, .int .i64 x.signed.server, .int .i64 x.signed.kind, .int .i64 x.signed.view, .int .i64 x.signed.slot, .string ⟨x.signed.digest.toArray⟩, .string ⟨x.signed.sig.toArray⟩] 26)))) hown' hgrow hat2 13)
        have HB4 := Lib.hid (HLp.out.low (v' := .slice aw (j + 1) cw) hB5 (by omega) HB.out HBa.out hgrow 13)
        have HR4 := Lib.hid ((HLp.out.vr HBa.out hgrow HR.out (by omega)).grown (grown_set w4 ⟨b5, 13, none⟩ (.slice aw (j + 1) cw)) (by show bR ≠ b5; omega))
        have HV4 := Lib.hid ((HLp.out.vr HBa.out hgrow HV.out (by omega)).grown (grown_set w4 ⟨b5, 13, none⟩ (.slice aw (j + 1) cw)) (by show w.heap.size ≠ b5; omega))
        have HX5 := Lib.hid (HX4.out.set 13 (.slice aw (j + 1) cw))
        clear hown' hgrow hat hat2 cM lM
        go_wp2_with fail
        go_roundw
        case rel => exact ⟨j + 1, _, _, _, by go_num, by omega, HLp2.out, HR4.out, HX5.out, HV4.out, HB4.out⟩
        case measure => simp [intOf]; omega
    · obtain rfl : j = t3.length := by omega
      have HA1 : Hid (allD t3 = some (xs.map St.er)) := Lib.hid (by rw [allD_allO, HLp.out.all, List.drop_length, allO]; simp)
      obtain ⟨ao, co, hv⟩ := ownsRow_form HLp.out.own
      subst hv
      have HLn := Lib.hid HLp.out.len
      have HH1 := Lib.hid HLp.out.held
      have HRow1 := Lib.hid (held_rowG HLp.out.own hB3 hB5)
      have h7 := HLp.out.size
      clear HLp i0 HI HZ0 HZ1 HZ2 HF0
      generalize hwe : wr = u10 at HR HX HV HB HH1 HRow1 h7 ⊢
      clear hwe
      go_wp2_with (refine wpList_load_mid rfl 63 _ rfl bR 0 rfl (rcC r3) _ HR.out.range Tryz.underlying63 rfl (infoRc r3) ?_)
      refine (refTexts_any r3 _ (Nat.le_trans HL3.out (by decide))).mono ?_
      rintro e u11 ⟨a4, c4, he, hst, hb⟩
      rw [HT4.out] at he hst
      obtain rfl : e = .returned (.tuple #[.slice a4 t4.length c4, .agg (rcC r4).toArray]) := he
      have HR4 := Lib.hid (held_new (a := b5 + 1) (b4 := b5) hst (by have := HX.out.lt; omega) (Or.inl HX.out.lt))
      have HR := Lib.hid (HR.out.below hb)
      have HX := Lib.hid (HX.out.below hb)
      have HV := Lib.hid (HV.out.below hb)
      have HB := Lib.hid (bon HB.out hb)
      have HH1 := Lib.hid (HH1.out.below hb)
      have HRow1 := Lib.hid (HRow1.out.below hb)
      clear hst
      clear hb
      have HRo := HR
      have HR := Lib.hid (HR.out.sets (rcC r4) rfl)
      have HX := Lib.hid (HX.out.grown (grown_vs (w := u11) (b := bR) (rcC r4)) (by show b5 ≠ bR; omega))
      have HV := Lib.hid (HV.out.grown (grown_vs (w := u11) (b := bR) (rcC r4)) (by show w.heap.size ≠ bR; omega))
      have HB := Lib.hid (below_gr HB.out (grown_vs (w := u11) (b := bR) (rcC r4)) (by show w.heap.size ≤ bR; omega))
      have HH1 := Lib.hid (HH1.out.row (grown_vs (w := u11) (b := bR) (rcC r4)) (by show bR < b5 + 1 ∨ bR = b5; omega))
      have HRow1 := Lib.hid (HRow1.out.row (grown_vs (w := u11) (b := bR) (rcC r4)) (by show bR < b5 + 1 ∨ bR = b5; omega))
      have HR4 := Lib.hid (HR4.out.row (grown_vs (w := u11) (b := bR) (rcC r4)) (by show bR < b5 + 1 ∨ bR = b5; omega))
      go_upto_region 14 with (refine wpList_store_mid rfl 63 _ _ rfl bR 0 (rcC r4).toArray rfl rfl ?_ (infoRc r4) (rcC_one r4) ?_; · exact HRo.out.there (n := 2) rfl)
      try simp only [List.toList_toArray]
      clear HRo
      generalize (u11.setCells bR 0 (rcC r4)) = u12 at HR HX HV HB HH1 HRow1 HR4 ⊢
      clear hB5 hB3 h7
      obtain ⟨i0, hi, hz0, hz1, hz2⟩ := info_parts infoDer
      have HI := Lib.hid hi
      have HZ0 := Lib.hid hz0
      have HZ1 := Lib.hid hz1
      have HZ2 := Lib.hid hz2
      clear hi hz0 hz1 hz2
      have HH := Lib.hid ((HRow1.out.and HH1.out).and HR4.out)
      obtain ⟨F0, hF0⟩ := LpSt.start (T := 78) (k := 3) (C := deC) (er := De.er) (ok := De.ok) (D := (whole rdDe)) (l := t4) (W0 := (fun W => (Rd W 12 ao t3.length (xs.flatMap stC) ∧ ((Rd W 1 a3 t3.length (strC t3)) ∧ ∀ y ∈ xs, St.ok y W)) ∧ Rd W 1 a4 t4.length (strC t4))) HH.out
      have hB5 := HX.out.lt
      have hB3 : b5 + 1 ≤ u12.heap.size := HX.out.lt
      have HX := Lib.hid (HX.out.eq (cs' := [.int .i64 n0, .int .i64 n1, .int .i64 n2, .int .i64 n3, .int .i64 n4, .string ⟨t1.toArray⟩, .int .i64 n5, .int .i64 x2.server, .int .i64 x2.kind, .int .i64 x2.view, .int .i64 x2.slot, .string ⟨x2.digest.toArray⟩, .string ⟨x2.sig.toArray⟩, .slice ao t3.length co, .slice none 0 0, .int .i64 0, .string ⟨#[]⟩, .slice none 0 0, .slice none 0 0, .slice none 0 0, .slice none 0 0]) rfl)
      generalize hBe : u12.heap.size = B at hF0 hB5 hB3
      have HF0 := Lib.hid hF0
      clear hBe hF0 HH HH1 HRow1 HR4
      go_wp2_with fail
      go_loopw [11] (fun i wr => ∃ (j : Nat) (o : Value) (ys : List De) (F : Nat → Prop), i = .int .i64 j ∧ j ≤ t4.length ∧ LpSt 78 3 deC De.er De.ok (whole rdDe) (b5 + 1) b5 (fun W => (Rd W 12 ao t3.length (xs.flatMap stC) ∧ ((Rd W 1 a3 t3.length (strC t3)) ∧ ∀ y ∈ xs, St.ok y W)) ∧ Rd W 1 a4 t4.length (strC t4)) t4 j o ys B F wr ∧ Vr wr bR (rcC r4) ∧ Vr wr b5 [.int .i64 n0, .int .i64 n1, .int .i64 n2, .int .i64 n3, .int .i64 n4, .string ⟨t1.toArray⟩, .int .i64 n5, .int .i64 x2.server, .int .i64 x2.kind, .int .i64 x2.view, .int .i64 x2.slot, .string ⟨x2.digest.toArray⟩, .string ⟨x2.sig.toArray⟩, .slice ao t3.length co, o, .int .i64 0, .string ⟨#[]⟩, .slice none 0 0, .slice none 0 0, .slice none 0 0, .slice none 0 0] ∧ Vr wr w.heap.size (msC ms0) ∧ Below w.heap.size w wr) (fun i _ => t4.length - (intOf i).toNat)
      case atStart => exact ⟨0, _, _, _, rfl, by omega, HF0.out, HR.out, HX.out, HV.out, HB.out⟩
      case round =>
        obtain ⟨j, o, ys, F, rfl, hj, hLp, hR, hX, hV, hB0⟩ := hrel
        have HLp := Lib.hid hLp
        have HR := Lib.hid hR
        have HX := Lib.hid hX
        have HV := Lib.hid hV
        have HB := Lib.hid hB0
        clear hLp hR hX hV hB0
        by_cases hlt1 : j < t4.length
        · have i0' : (0 : Int) ≤ (j : Int) := by omega
          have i1 : (j : Int) < (t4.length : Int) := by omega
          obtain ⟨b, off, hA, hbl, hcc⟩ := Rd.cells (HLp.out.foot.out.1.2) (by rw [strC_len]; omega)
          subst hA
          obtain ⟨t, ht⟩ : ∃ t, t = t4[j] := ⟨_, rfl⟩
          have a0 : wr.cell? ⟨b, off + j, none⟩ = some (.string ⟨t.toArray⟩) := hcc j _ (by unfold strC; rw [List.getElem?_map, List.getElem?_eq_getElem hlt1, ht]; rfl)
          have htl : t.length ≤ 16777216 := by have h8 := sum_get szS t4 t (ht ▸ List.getElem_mem hlt1); have h9 := HTL4.out; unfold szS at h8 h9; omega
          have HTt := Lib.hid ht
          have HDr : Hid (t4.drop j = t :: t4.drop (j + 1)) := Lib.hid (by rw [List.drop_eq_getElem_cons hlt1, ht])
          clear ht hcc
          obtain ⟨dd, q, hq⟩ : ∃ d q, rkDe ⟨t, true⟩ = (d, q) := ⟨_, _, rfl⟩
          have HTq := Lib.hid hq
          have HDe := Lib.hid (al2_whole al2_de t)
          rw [hq] at HDe
          clear hq
          have HDS := Lib.hid (refReadEntry_any ⟨t, true⟩ wr (Nat.le_trans htl (by decide)))
          go_wp2_with fail
          refine HDS.out.mono ?_
          rintro e w2 ⟨y, he, hy, hst, b2⟩
          rw [HTq.out] at he hy
          obtain rfl : e = .returned (.tuple #[.agg #[.int .i64 y.view, .string ⟨y.value.toArray⟩, .slice y.cert.a y.cert.l.length y.cert.c], .agg (rcC q).toArray]) := he
          have HEy := Lib.hid hy
          have hbb : Below w2.heap.size w2 ((((w2.alloc (.cells #[.int .i64 0, .string ⟨#[]⟩, .slice none 0 0] 78)).alloc (.cells (rcC Rc.fail).toArray 63)).setCells w2.heap.size 0 (deC y)).setCells (w2.heap.size + 1) 0 (rcC q)) := below_gr (below_gr (bon (below_new _ _) (below_new _ _)) (grown_vs (b := w2.heap.size) (deC y)) (Nat.le_refl _)) (grown_vs (b := w2.heap.size + 1) (rcC q)) (Nat.le_succ _)
          have hY0 : Vr ((w2.alloc (.cells #[.int .i64 0, .string ⟨#[]⟩, .slice none 0 0] 78)).alloc (.cells (rcC Rc.fail).toArray 63)) w2.heap.size [.int .i64 0, .string ⟨#[]⟩, .slice none 0 0] := (Vr.new w2 [.int .i64 0, .string ⟨#[]⟩, .slice none 0 0] 78).below (below_new _ _)
          have hQ0 : Vr ((w2.alloc (.cells #[.int .i64 0, .string ⟨#[]⟩, .slice none 0 0] 78)).alloc (.cells (rcC Rc.fail).toArray 63)) (w2.heap.size + 1) (rcC Rc.fail) := Vr.new' _ (rcC Rc.fail) 63 (by simp)
          have HBr := Lib.hid (bon b2 hbb)
          have HS := Lib.hid (hst.on (keeps_below _ hbb))
          have H9 := Lib.hid ((hY0.sets (deC y) rfl).grown (grown_vs (b := w2.heap.size + 1) (rcC q)) (by omega))
          have H10 := Lib.hid ((hQ0.grown (grown_vs (b := w2.heap.size) (deC y)) (by omega)).sets (rcC q) rfl)
          have HY0 := Lib.hid hY0
          have HQ0 := Lib.hid (hQ0.grown (grown_vs (b := w2.heap.size) (deC y)) (by omega))
          clear hy hst b2 HDS hbb hY0 hQ0
          go_upto_region 18 with (first
            | (refine wpList_store_mid rfl 78 _ _ rfl w2.heap.size 0 (deC y).toArray rfl rfl ?_ (infoDen y) (deC_one' y) ?_; · exact HY0.out.there rfl)
            | (refine wpList_store_mid rfl 63 _ _ rfl (w2.heap.size + 1) 0 (rcC q).toArray rfl rfl ?_ (infoRc q) (rcC_one q) ?_; · exact HQ0.out.there (n := 2) rfl))
          try simp only [List.toList_toArray]
          clear HY0 HQ0
          change Code.wp _ _ _ _ ((((w2.alloc (.cells #[.int .i64 0, .string ⟨#[]⟩, .slice none 0 0] 78)).alloc (.cells (rcC Rc.fail).toArray 63)).setCells w2.heap.size 0 (deC y)).setCells (w2.heap.size + 1) 0 (rcC q))
          generalize ((((w2.alloc (.cells #[.int .i64 0, .string ⟨#[]⟩, .slice none 0 0] 78)).alloc (.cells (rcC Rc.fail).toArray 63)).setCells w2.heap.size 0 (deC y)).setCells (w2.heap.size + 1) 0 (rcC q)) = w3 at HBr HS H9 H10 ⊢
          generalize w2.heap.size = b9 at H9 H10 ⊢
          clear a0 hbl
          have c90 := H10.out.cells 0 _ rfl
          have c91 := H10.out.cells 1 _ rfl
          have l9 := H10.out.lt
          obtain ⟨s2, k2⟩ := q
          simp only at c90 c91
          have HV9 := Lib.hid (HV.out.below HBr.out)
          have HB9 := Lib.hid (bon HB.out HBr.out)
          cases k2 with
          | false =>
            have HY : Hid (decMs s = none) := Lib.hid (by rw [HSpec.out, HA1.out]; simp only; rw [show many rdDe t4 = none from by rw [many_allO, HLp.out.all, HDr.out, allO, HDe.out]; rfl])
            go_wp2_with (refine wpList_store_mid rfl 36 _ _ rfl w.heap.size 0 (msC ms0).toArray rfl rfl (HV9.out.there rfl) (infoMsn ms0) (msC_one' ms0) ?_)
            refine bodyPost_ret (v := .tuple #[.agg (msC ms0).toArray, .int .i64 2]) ?_ rfl (ret_decM_none HY.out (below_gr HB9.out (grown_vs (b := w.heap.size) (msC ms0)) (Nat.le_refl _)))
            exact results_mid_slot Tryz.results18 _ _ w.heap.size (msC ms0) _ _ rfl rfl (HV9.out.sets (msC ms0) rfl).range Tryz.underlying36 rfl (infoMsn ms0)
          | true =>
            cases s2 with
            | cons q0 qs =>
              have HY : Hid (decMs s = none) := Lib.hid (by rw [HSpec.out, HA1.out]; simp only; rw [show many rdDe t4 = none from by rw [many_allO, HLp.out.all, HDr.out, allO, HDe.out]; rfl])
              go_wp2_with (refine wpList_store_mid rfl 36 _ _ rfl w.heap.size 0 (msC ms0).toArray rfl rfl (HV9.out.there rfl) (infoMsn ms0) (msC_one' ms0) ?_)
              refine bodyPost_ret (v := .tuple #[.agg (msC ms0).toArray, .int .i64 2]) ?_ rfl (ret_decM_none HY.out (below_gr HB9.out (grown_vs (b := w.heap.size) (msC ms0)) (Nat.le_refl _)))
              exact results_mid_slot Tryz.results18 _ _ w.heap.size (msC ms0) _ _ rfl rfl (HV9.out.sets (msC ms0) rfl).range Tryz.underlying36 rfl (infoMsn ms0)
            | nil =>
              have HDx : Hid (whole rdDe t4[j] = some (De.er y)) := Lib.hid (by rw [← HTt.out, HDe.out, HEy.out]; rfl)
              clear HV9 HB9
              have HO3 := Lib.hid (ownsRow_below HLp.out.own HBr.out)
              have HX3 := Lib.hid (HX.out.below HBr.out)
              have cM := HX3.out.cells 14 _ rfl
              have lM := HX3.out.lt
              have hB9 : B ≤ wr.heap.size := HLp.out.size
              have hB8 := HBr.out.size
              go_wp2_with (first
                | (refine wpList_load_mid rfl 78 _ rfl b9 0 rfl [.int .i64 y.view, .string ⟨y.value.toArray⟩, .slice y.cert.a y.cert.l.length y.cert.c] _ H9.out.range Tryz.underlying78 rfl (infoDen y) ?_)
                | (at_builtin; refine wpList_append_own_at _ rfl _ _ 30 rfl B 78 i0 _ 3 48 Tryz.underlying30 HI.out HZ0.out HZ1.out HZ2.out rfl (by decide) _ _ _ rfl (HO3.out.alloc _) ⟨w3.heap.size, 0, none⟩ 1 1 [.int .i64 y.view, .string ⟨y.value.toArray⟩, .slice y.cert.a y.cert.l.length y.cert.c] rfl rfl (cell_new _ _ _ _ rfl) (by simp [Value.oneCell']) (by simp [maxLen]; omega) (by omega) (by simp; omega) ?_))
              intro v' w4 hown' hgrow _ hat
              obtain ⟨aw, cw, hvw⟩ := ownsRow_form hown'
              subst hvw
              have HBa : Hid (Below wr.heap.size wr (w3.alloc (.cells #[.int .i64 y.view, .string ⟨y.value.toArray⟩, .slice y.cert.a y.cert.l.length y.cert.c] 78))) := Lib.hid (bon HBr.out (below_new _ _))
              have hat2 : (Value.slice aw (j + 1) cw).ownBlock = o.ownBlock ∨ (Value.slice aw (j + 1) cw).ownBlock = some (w3.alloc (.cells #[.int .i64 y.view, .string ⟨y.value.toArray⟩, .slice y.cert.a y.cert.l.length y.cert.c] 78)).heap.size := by simpa using hat
              have HX4 := Lib.hid (HLp.out.vr HBa.out hgrow HX.out hB5)
              have cN := HX4.out.cells 14 _ rfl
              have fN := HX4.out.free 14 (of_decide_eq_true rfl)
              have lN := HX4.out.lt
              have HLp2 := Lib.hid (HLp.out.step (x := y) hB5 hB3 HBa.out hlt1 HDx.out (Nat.le_refl _) (HS.out.on (keeps_below _ (below_new w3 (.cells #[.int .i64 y.view, .string ⟨y.value.toArray⟩, .slice y.cert.a y.cert.l.length y.cert.c] 78)))) hown' hgrow hat2 14)
              have HB4 := Lib.hid (HLp.out.low (v' := .slice aw (j + 1) cw) hB5 (by omega) HB.out HBa.out hgrow 14)
              have HR4 := Lib.hid ((HLp.out.vr HBa.out hgrow HR.out (by omega)).grown (grown_set w4 ⟨b5, 14, none⟩ (.slice aw (j + 1) cw)) (by show bR ≠ b5; omega))
              have HV4 := Lib.hid ((HLp.out.vr HBa.out hgrow HV.out (by omega)).grown (grown_set w4 ⟨b5, 14, none⟩ (.slice aw (j + 1) cw)) (by show w.heap.size ≠ b5; omega))
              have HX5 := Lib.hid (HX4.out.set 14 (.slice aw (j + 1) cw))
              clear hown' hgrow hat hat2 cM lM
              go_wp2_with fail
              go_roundw
              case rel => exact ⟨j + 1, _, _, _, by go_num, by omega, HLp2.out, HR4.out, HX5.out, HV4.out, HB4.out⟩
              case measure => simp [intOf]; omega
        · obtain rfl : j = t4.length := by omega
          have HA2 : Hid (many rdDe t4 = some (ys.map De.er)) := Lib.hid (by rw [many_allO, HLp.out.all, List.drop_length, allO]; simp)
          obtain ⟨bo, cp, hv⟩ := ownsRow_form HLp.out.own
          subst hv
          have HLn2 := Lib.hid HLp.out.len
          have HH2 := Lib.hid HLp.out.held
          have HRow2 := Lib.hid (held_rowG HLp.out.own hB3 hB5)
          have h7 := HLp.out.size
          clear HLp i0 HI HZ0 HZ1 HZ2 HF0
          generalize hwe : wr = u13 at HR HX HV HB HH2 HRow2 h7 ⊢
          clear hwe
          go_wp2_with (refine wpList_load_mid rfl 63 _ rfl bR 0 rfl (rcC r4) _ HR.out.range Tryz.underlying63 rfl (infoRc r4) ?_)
          refine (refText_any r4 _ (Nat.le_trans HL4.out (by decide))).mono ?_
          rintro e u14 ⟨he, hb⟩
          rw [HT5.out] at he
          obtain rfl : e = .returned (.tuple #[.string ⟨t5.toArray⟩, .agg (rcC r5).toArray]) := he
          have HR := Lib.hid (HR.out.below hb)
          have HX := Lib.hid (HX.out.below hb)
          have HV := Lib.hid (HV.out.below hb)
          have HB := Lib.hid (bon HB.out hb)
          have HH2 := Lib.hid (HH2.out.below hb)
          have HRow2 := Lib.hid (HRow2.out.below hb)
          clear hb
          have HRo := HR
          have HR := Lib.hid (HR.out.sets (rcC r5) rfl)
          have HX := Lib.hid (HX.out.grown (grown_vs (w := u14) (b := bR) (rcC r5)) (by show b5 ≠ bR; omega))
          have HV := Lib.hid (HV.out.grown (grown_vs (w := u14) (b := bR) (rcC r5)) (by show w.heap.size ≠ bR; omega))
          have HB := Lib.hid (below_gr HB.out (grown_vs (w := u14) (b := bR) (rcC r5)) (by show w.heap.size ≤ bR; omega))
          have HH2 := Lib.hid (HH2.out.row (grown_vs (w := u14) (b := bR) (rcC r5)) (by show bR < b5 + 1 ∨ bR = b5; omega))
          have HRow2 := Lib.hid (HRow2.out.row (grown_vs (w := u14) (b := bR) (rcC r5)) (by show bR < b5 + 1 ∨ bR = b5; omega))
          go_upto_region 22 with (refine wpList_store_mid rfl 63 _ _ rfl bR 0 (rcC r5).toArray rfl rfl ?_ (infoRc r5) (rcC_one r5) ?_; · exact HRo.out.there (n := 2) rfl)
          try simp only [List.toList_toArray]
          clear HRo
          generalize (u14.setCells bR 0 (rcC r5)) = u15 at HR HX HV HB HH2 HRow2 ⊢
          have cR := HR.out.cells 1 _ rfl
          have lR := HR.out.lt
          go_wp2_with fail
          refine (refReadSnapshot_any ⟨t5, r5.ok⟩ u15 (Nat.le_trans HTL5.out (by decide))).mono ?_
          rintro e w2 ⟨x7, he, hx, hst, b2⟩
          rw [HTX.out] at he hx
          obtain rfl : e = .returned (.tuple #[.agg #[.int .i64 x7.slot, .string ⟨x7.root.toArray⟩, .slice x7.chunks.a x7.chunks.l.length x7.chunks.c, .slice x7.proof.a x7.proof.l.length x7.proof.c, .slice x7.chain.a x7.chain.l.length x7.chain.c], .agg (rcC q0).toArray]) := he
          have HE7 := Lib.hid hx
          have hx5 := HX.out.lt
          have hbb : Below w2.heap.size w2 ((((w2.alloc (.cells #[.int .i64 0, .string ⟨#[]⟩, .slice none 0 0, .slice none 0 0, .slice none 0 0] 34)).alloc (.cells (rcC Rc.fail).toArray 63)).setCells w2.heap.size 0 (snC x7)).setCells (w2.heap.size + 1) 0 (rcC q0)) := below_gr (below_gr (bon (below_new _ _) (below_new _ _)) (grown_vs (b := w2.heap.size) (snC x7)) (Nat.le_refl _)) (grown_vs (b := w2.heap.size + 1) (rcC q0)) (Nat.le_succ _)
          have hY0 : Vr ((w2.alloc (.cells #[.int .i64 0, .string ⟨#[]⟩, .slice none 0 0, .slice none 0 0, .slice none 0 0] 34)).alloc (.cells (rcC Rc.fail).toArray 63)) w2.heap.size [.int .i64 0, .string ⟨#[]⟩, .slice none 0 0, .slice none 0 0, .slice none 0 0] := (Vr.new w2 [.int .i64 0, .string ⟨#[]⟩, .slice none 0 0, .slice none 0 0, .slice none 0 0] 34).below (below_new _ _)
          have hQ0 : Vr ((w2.alloc (.cells #[.int .i64 0, .string ⟨#[]⟩, .slice none 0 0, .slice none 0 0, .slice none 0 0] 34)).alloc (.cells (rcC Rc.fail).toArray 63)) (w2.heap.size + 1) (rcC Rc.fail) := Vr.new' _ (rcC Rc.fail) 63 (by simp)
          have HR7 := Lib.hid ((held_new (a := b5 + 1) (b4 := b5) hst (by omega) (Or.inl hx5)).below hbb)
          have HR := Lib.hid (HR.out.below b2)
          have HX := Lib.hid (HX.out.below b2)
          have HV := Lib.hid (HV.out.below b2)
          have HB := Lib.hid (bon HB.out b2)
          have HH2 := Lib.hid (HH2.out.below b2)
          have HRow2 := Lib.hid (HRow2.out.below b2)
          have HR := Lib.hid (HR.out.below hbb)
          have HX := Lib.hid (HX.out.below hbb)
          have HV := Lib.hid (HV.out.below hbb)
          have HB := Lib.hid (bon HB.out hbb)
          have HH2 := Lib.hid (HH2.out.below hbb)
          have HRow2 := Lib.hid (HRow2.out.below hbb)
          have H9 := Lib.hid ((hY0.sets (snC x7) rfl).grown (grown_vs (b := w2.heap.size + 1) (rcC q0)) (by omega))
          have H10 := Lib.hid ((hQ0.grown (grown_vs (b := w2.heap.size) (snC x7)) (by omega)).sets (rcC q0) rfl)
          have HY0 := Lib.hid hY0
          have HQ0 := Lib.hid (hQ0.grown (grown_vs (b := w2.heap.size) (snC x7)) (by omega))
          have h59 : b5 < w2.heap.size := Nat.lt_of_lt_of_le hx5 b2.size
          clear hx hst b2 hbb hY0 hQ0 cR lR hx5
          go_upto_region 23 with (first
            | (refine wpList_store_mid rfl 34 _ _ rfl w2.heap.size 0 (snC x7).toArray rfl rfl ?_ (infoSnn x7) (snC_one' x7) ?_; · exact HY0.out.there rfl)
            | (refine wpList_store_mid rfl 63 _ _ rfl (w2.heap.size + 1) 0 (rcC q0).toArray rfl rfl ?_ (infoRc q0) (rcC_one q0) ?_; · exact HQ0.out.there (n := 2) rfl))
          try simp only [List.toList_toArray]
          clear HY0 HQ0
          change Code.wp _ _ _ _ ((((w2.alloc (.cells #[.int .i64 0, .string ⟨#[]⟩, .slice none 0 0, .slice none 0 0, .slice none 0 0] 34)).alloc (.cells (rcC Rc.fail).toArray 63)).setCells w2.heap.size 0 (snC x7)).setCells (w2.heap.size + 1) 0 (rcC q0))
          generalize ((((w2.alloc (.cells #[.int .i64 0, .string ⟨#[]⟩, .slice none 0 0, .slice none 0 0, .slice none 0 0] 34)).alloc (.cells (rcC Rc.fail).toArray 63)).setCells w2.heap.size 0 (snC x7)).setCells (w2.heap.size + 1) 0 (rcC q0)) = u16 at HR HX HV HB HH2 HRow2 HR7 H9 H10 ⊢
          generalize w2.heap.size = b9 at H9 H10 h59 ⊢
          have HXo := HX
          have H9o := H9
          have HR := Lib.hid (HR.out.grown (grown_vs_at (w := u16) (b := b5) (o := 15) (snC x7)) (by show bR ≠ b5; omega))
          have HX := Lib.hid ((HX.out.sets_at 15 (snC x7) (of_decide_eq_true rfl)).eq (cs' := [.int .i64 n0, .int .i64 n1, .int .i64 n2, .int .i64 n3, .int .i64 n4, .string ⟨t1.toArray⟩, .int .i64 n5, .int .i64 x2.server, .int .i64 x2.kind, .int .i64 x2.view, .int .i64 x2.slot, .string ⟨x2.digest.toArray⟩, .string ⟨x2.sig.toArray⟩, .slice ao t3.length co, .slice bo t4.length cp, .int .i64 x7.slot, .string ⟨x7.root.toArray⟩, .slice x7.chunks.a x7.chunks.l.length x7.chunks.c, .slice x7.proof.a x7.proof.l.length x7.proof.c, .slice x7.chain.a x7.chain.l.length x7.chain.c, .slice none 0 0]) rfl)
          have HV := Lib.hid (HV.out.grown (grown_vs_at (w := u16) (b := b5) (o := 15) (snC x7)) (by show w.heap.size ≠ b5; omega))
          have HB := Lib.hid (below_gr HB.out (grown_vs_at (w := u16) (b := b5) (o := 15) (snC x7)) (by show w.heap.size ≤ b5; omega))
          have HH2 := Lib.hid (HH2.out.row (grown_vs_at (w := u16) (b := b5) (o := 15) (snC x7)) (by show b5 < b5 + 1 ∨ b5 = b5; omega))
          have HRow2 := Lib.hid (HRow2.out.row (grown_vs_at (w := u16) (b := b5) (o := 15) (snC x7)) (by show b5 < b5 + 1 ∨ b5 = b5; omega))
          have HR7 := Lib.hid (HR7.out.row (grown_vs_at (w := u16) (b := b5) (o := 15) (snC x7)) (by show b5 < b5 + 1 ∨ b5 = b5; omega))
          have H10 := Lib.hid (H10.out.grown (grown_vs_at (w := u16) (b := b5) (o := 15) (snC x7)) (by show b9 + 1 ≠ b5; omega))
          go_upto_region 24 with (first
            | (refine wpList_load_mid rfl 34 _ rfl b9 0 rfl (snC x7) _ H9o.out.range Tryz.underlying34 rfl (infoSnn x7) ?_)
            | (refine wpList_store_mid rfl 34 _ _ rfl b5 15 (snC x7).toArray rfl rfl ?_ (infoSnn x7) (snC_one' x7) ?_; · exact HXo.out.there_at 15 5 (of_decide_eq_true rfl)))
          try simp only [List.toList_toArray]
          clear HXo H9o H9
          generalize (u16.setCells b5 15 (snC x7)) = u17 at HR HX HV HB HH2 HRow2 HR7 H10 ⊢
          go_wp2_with (refine wpList_load_mid rfl 63 _ rfl bR 0 rfl (rcC r5) _ HR.out.range Tryz.underlying63 rfl (infoRc r5) ?_)
          refine (refTexts_any r5 _ (Nat.le_trans HL5.out (by decide))).mono ?_
          rintro e u18 ⟨a6, c6, he, hst, hb⟩
          rw [HT6.out] at he hst
          obtain rfl : e = .returned (.tuple #[.slice a6 t6.length c6, .agg (rcC r6).toArray]) := he
          have HR6 := Lib.hid (held_new (a := b5 + 1) (b4 := b5) hst (by have := HX.out.lt; omega) (Or.inl HX.out.lt))
          have HR := Lib.hid (HR.out.below hb)
          have HX := Lib.hid (HX.out.below hb)
          have HV := Lib.hid (HV.out.below hb)
          have HB := Lib.hid (bon HB.out hb)
          have H10 := Lib.hid (H10.out.below hb)
          have HH2 := Lib.hid (HH2.out.below hb)
          have HRow2 := Lib.hid (HRow2.out.below hb)
          have HR7 := Lib.hid (HR7.out.below hb)
          clear hst
          clear hb
          have cx := HX.out.cells 20 _ rfl
          have fx := HX.out.free 20 (of_decide_eq_true rfl)
          have lx := HX.out.lt
          have HR := Lib.hid (HR.out.grown (grown_set u18 ⟨b5, 20, none⟩ (.slice a6 t6.length c6)) (by show bR ≠ b5; omega))
          have HX := Lib.hid ((HX.out.set 20 (.slice a6 t6.length c6)).eq (cs' := [.int .i64 n0, .int .i64 n1, .int .i64 n2, .int .i64 n3, .int .i64 n4, .string ⟨t1.toArray⟩, .int .i64 n5, .int .i64 x2.server, .int .i64 x2.kind, .int .i64 x2.view, .int .i64 x2.slot, .string ⟨x2.digest.toArray⟩, .string ⟨x2.sig.toArray⟩, .slice ao t3.length co, .slice bo t4.length cp, .int .i64 x7.slot, .string ⟨x7.root.toArray⟩, .slice x7.chunks.a x7.chunks.l.length x7.chunks.c, .slice x7.proof.a x7.proof.l.length x7.proof.c, .slice x7.chain.a x7.chain.l.length x7.chain.c, .slice a6 t6.length c6]) rfl)
          have HV := Lib.hid (HV.out.grown (grown_set u18 ⟨b5, 20, none⟩ (.slice a6 t6.length c6)) (by show w.heap.size ≠ b5; omega))
          have HB := Lib.hid (below_gr HB.out (grown_set u18 ⟨b5, 20, none⟩ (.slice a6 t6.length c6)) (by show w.heap.size ≤ b5; omega))
          have HH2 := Lib.hid (HH2.out.row (grown_set u18 ⟨b5, 20, none⟩ (.slice a6 t6.length c6)) (by show b5 < b5 + 1 ∨ b5 = b5; omega))
          have HRow2 := Lib.hid (HRow2.out.row (grown_set u18 ⟨b5, 20, none⟩ (.slice a6 t6.length c6)) (by show b5 < b5 + 1 ∨ b5 = b5; omega))
          have HR7 := Lib.hid (HR7.out.row (grown_set u18 ⟨b5, 20, none⟩ (.slice a6 t6.length c6)) (by show b5 < b5 + 1 ∨ b5 = b5; omega))
          have HR6 := Lib.hid (HR6.out.row (grown_set u18 ⟨b5, 20, none⟩ (.slice a6 t6.length c6)) (by show b5 < b5 + 1 ∨ b5 = b5; omega))
          have H10 := Lib.hid ((H10.out.grown (grown_set u18 ⟨b5, 20, none⟩ (.slice a6 t6.length c6)) (by show b9 + 1 ≠ b5; omega)).grown (grown_vs (w := (u18.setCell ⟨b5, 20, none⟩ (.slice a6 t6.length c6))) (b := bR) (rcC r6)) (by show b9 + 1 ≠ bR; omega))
          have HRo := HR
          have HR := Lib.hid (HR.out.sets (rcC r6) rfl)
          have HX := Lib.hid (HX.out.grown (grown_vs (w := (u18.setCell ⟨b5, 20, none⟩ (.slice a6 t6.length c6))) (b := bR) (rcC r6)) (by show b5 ≠ bR; omega))
          have HV := Lib.hid (HV.out.grown (grown_vs (w := (u18.setCell ⟨b5, 20, none⟩ (.slice a6 t6.length c6))) (b := bR) (rcC r6)) (by show w.heap.size ≠ bR; omega))
          have HB := Lib.hid (below_gr HB.out (grown_vs (w := (u18.setCell ⟨b5, 20, none⟩ (.slice a6 t6.length c6))) (b := bR) (rcC r6)) (by show w.heap.size ≤ bR; omega))
          have HH2 := Lib.hid (HH2.out.row (grown_vs (w := (u18.setCell ⟨b5, 20, none⟩ (.slice a6 t6.length c6))) (b := bR) (rcC r6)) (by show bR < b5 + 1 ∨ bR = b5; omega))
          have HRow2 := Lib.hid (HRow2.out.row (grown_vs (w := (u18.setCell ⟨b5, 20, none⟩ (.slice a6 t6.length c6))) (b := bR) (rcC r6)) (by show bR < b5 + 1 ∨ bR = b5; omega))
          have HR7 := Lib.hid (HR7.out.row (grown_vs (w := (u18.setCell ⟨b5, 20, none⟩ (.slice a6 t6.length c6))) (b := bR) (rcC r6)) (by show bR < b5 + 1 ∨ bR = b5; omega))
          have HR6 := Lib.hid (HR6.out.row (grown_vs (w := (u18.setCell ⟨b5, 20, none⟩ (.slice a6 t6.length c6))) (b := bR) (rcC r6)) (by show bR < b5 + 1 ∨ bR = b5; omega))
          go_upto_region 25 with (first | (refine wpList_store_mid rfl 63 _ _ rfl bR 0 (rcC r6).toArray rfl rfl ?_ (infoRc r6) (rcC_one r6) ?_; · exact HRo.out.there (n := 2) rfl))
          try simp only [List.toList_toArray]
          clear HRo cx fx lx
          generalize ((u18.setCell ⟨b5, 20, none⟩ (.slice a6 t6.length c6)).setCells bR 0 (rcC r6)) = u19 at H10 HR HX HV HB HH2 HRow2 HR7 HR6 ⊢
          obtain ⟨X, hX⟩ : ∃ X : Ms, X = ⟨n0, n1, n2, n3, n4, t1, n5, x2, ⟨ao, co, xs⟩, ⟨bo, cp, ys⟩, x7, ⟨a6, c6, t6⟩⟩ := ⟨_, rfl⟩
          have HXX := Lib.hid hX
          have HX := Lib.hid (HX.out.eq (cs' := msC X) (by rw [hX, ← HLn.out, ← HLn2.out]; rfl))
          have HKX : Hid (Stays (b5 + 1) (X.ok) u19) := Lib.hid (fun W hW => by
            rw [HXX.out]
            have g2 := HH2.out.stays W hW
            have g1 := g2.1.1
            have g3 := HRow2.out.stays W hW
            have g7 := HR7.out.stays W hW
            have g6 := HR6.out.stays W hW
            refine ⟨⟨HN64.out n0 (by simp), HN64.out n1 (by simp), HN64.out n2 (by simp), HN64.out n3 (by simp), HN64.out n4 (by simp), HN64.out n5 (by simp)⟩, HK2.out, ⟨?_, g1.2.2⟩, ⟨?_, g2.2⟩, g7, ?_⟩
            · show Rd W 12 ao xs.length (xs.flatMap stC)
              rw [HLn.out]; exact g1.1
            · show Rd W 3 bo ys.length (ys.flatMap deC)
              rw [HLn2.out]; exact g3
            · show Rd W 1 a6 t6.length (t6.flatMap strV)
              rw [strV_strC]; exact g6)
          have HEX : Hid (X.er = Raw.ms ⟨[n0, n1, n2, n3, n4, n5], t1, t2, t3, t4, t5, t6⟩ (xs.map St.er) (ys.map De.er) xsn) := Lib.hid (by
            rw [HXX.out]
            show Ms.mk n0 n1 n2 n3 n4 t1 n5 x2 (Sl.of (xs.map St.er)) (Sl.of (ys.map De.er)) x7.er (Sl.er ⟨a6, c6, t6⟩) = _
            have h2 : x2 = t2 := HE2.out
            rw [h2, HE7.out]; rfl)
          have HSpec2 : Hid (decMs s = if (r6.fine && q0.fine && decide (vMs X = 0)) = true then some X.er else none) := Lib.hid (by
            rw [HSpec.out, HA1.out]; simp only; rw [HA2.out]; simp only; rw [← HEX.out, vMs_er])
          have HSz : Hid (r6.fine = true → q0.fine = true → X.sz ≤ 16777216) := Lib.hid (fun f7 f6 => by
            have h9 := HWR.out _ _ HA1.out HA2.out f7 f6
            rwa [← HEX.out, Ms.sz_er] at h9)
          clear hX HSpec HWR HH2 HRow2 HR7 HR6 HEX HXX HTL3 HTL4 HTL5 HTL6 HN64
          have d0 := HR.out.cells 0 _ rfl
          have d1 := HR.out.cells 1 _ rfl
          have dl := HR.out.lt
          have p0 := H10.out.cells 0 _ rfl
          have p1 := H10.out.cells 1 _ rfl
          have pl := H10.out.lt
          obtain ⟨s6, k6⟩ := r6
          obtain ⟨s7, k7⟩ := q0
          simp only at d0 d1 p0 p1
          cases k6 with
          | false =>
            have HY : Hid (decMs s = none) := Lib.hid (by rw [HSpec2.out]; rfl)
            go_wp2_with (refine wpList_store_mid rfl 36 _ _ rfl w.heap.size 0 (msC ms0).toArray rfl rfl (HV.out.there rfl) (infoMsn ms0) (msC_one' ms0) ?_)
            refine bodyPost_ret (v := .tuple #[.agg (msC ms0).toArray, .int .i64 2]) ?_ rfl (ret_decM_none HY.out (below_gr HB.out (grown_vs (b := w.heap.size) (msC ms0)) (Nat.le_refl _)))
            exact results_mid_slot Tryz.results18 _ _ w.heap.size (msC ms0) _ _ rfl rfl (HV.out.sets (msC ms0) rfl).range Tryz.underlying36 rfl (infoMsn ms0)
          | true =>
            cases s6 with
            | cons q1 qs =>
              have HY : Hid (decMs s = none) := Lib.hid (by rw [HSpec2.out]; rfl)
              go_wp2_with (refine wpList_store_mid rfl 36 _ _ rfl w.heap.size 0 (msC ms0).toArray rfl rfl (HV.out.there rfl) (infoMsn ms0) (msC_one' ms0) ?_)
              refine bodyPost_ret (v := .tuple #[.agg (msC ms0).toArray, .int .i64 2]) ?_ rfl (ret_decM_none HY.out (below_gr HB.out (grown_vs (b := w.heap.size) (msC ms0)) (Nat.le_refl _)))
              exact results_mid_slot Tryz.results18 _ _ w.heap.size (msC ms0) _ _ rfl rfl (HV.out.sets (msC ms0) rfl).range Tryz.underlying36 rfl (infoMsn ms0)
            | nil =>
              cases k7 with
              | false =>
                have HY : Hid (decMs s = none) := Lib.hid (by rw [HSpec2.out]; rfl)
                go_wp2_with (refine wpList_store_mid rfl 36 _ _ rfl w.heap.size 0 (msC ms0).toArray rfl rfl (HV.out.there rfl) (infoMsn ms0) (msC_one' ms0) ?_)
                refine bodyPost_ret (v := .tuple #[.agg (msC ms0).toArray, .int .i64 2]) ?_ rfl (ret_decM_none HY.out (below_gr HB.out (grown_vs (b := w.heap.size) (msC ms0)) (Nat.le_refl _)))
                exact results_mid_slot Tryz.results18 _ _ w.heap.size (msC ms0) _ _ rfl rfl (HV.out.sets (msC ms0) rfl).range Tryz.underlying36 rfl (infoMsn ms0)
              | true =>
                cases s7 with
                | cons q1 qs =>
                  have HY : Hid (decMs s = none) := Lib.hid (by rw [HSpec2.out]; rfl)
                  go_wp2_with (refine wpList_store_mid rfl 36 _ _ rfl w.heap.size 0 (msC ms0).toArray rfl rfl (HV.out.there rfl) (infoMsn ms0) (msC_one' ms0) ?_)
                  refine bodyPost_ret (v := .tuple #[.agg (msC ms0).toArray, .int .i64 2]) ?_ rfl (ret_decM_none HY.out (below_gr HB.out (grown_vs (b := w.heap.size) (msC ms0)) (Nat.le_refl _)))
                  exact results_mid_slot Tryz.results18 _ _ w.heap.size (msC ms0) _ _ rfl rfl (HV.out.sets (msC ms0) rfl).range Tryz.underlying36 rfl (infoMsn ms0)
                | nil =>
                  have HVal := Lib.hid (refValid_any X u19 HKX.out.out (MsFew.of_sz (Nat.le_trans (HSz.out rfl rfl) (by decide))))
                  go_wp2_with (refine wpList_load_wanted (by rfl) 36 _ rfl b5 0 rfl (msC X) _ HX.out.range Tryz.underlying36 rfl (infoMsn X) ?_)
                  refine HVal.out.mono ?_
                  rintro e w4 ⟨rfl, hb⟩
                  have HV4 := Lib.hid (HV.out.below hb)
                  have HB4 := Lib.hid (bon HB.out hb)
                  have HX4 := Lib.hid (HX.out.below hb)
                  have HK4 := Lib.hid (HKX.out.on (keeps_below _ hb))
                  clear hb HVal d0 d1 dl p0 p1 pl
                  by_cases h0 : vMs X = 0
                  · have h1 : (vMs X == 0) = true := by rw [h0]; rfl
                    have h2' : (vMs X != 0) = false := by rw [h0]; rfl
                    have HY : Hid (decMs s = some X.er) := Lib.hid (by rw [HSpec2.out, h0]; rfl)
                    clear h0
                    go_wp2_with (first
                      | (refine wpList_load_mid rfl 36 _ rfl b5 0 rfl (msC X) _ HX4.out.range Tryz.underlying36 rfl (infoMsn X) ?_)
                      | (refine wpList_store_mid rfl 36 _ _ rfl w.heap.size 0 (msC X).toArray rfl rfl (HV4.out.there rfl) (infoMsn X) (msC_one' X) ?_))
                    refine bodyPost_ret (v := .tuple #[.agg (msC X).toArray, .int .i64 0]) ?_ rfl (ret_decM_some HY.out (below_gr HB4.out (grown_vs (b := w.heap.size) (msC X)) (Nat.le_refl _)) (HK4.out.on (keeps_grown (grown_vs (b := w.heap.size) (msC X)) (by omega))).out)
                    exact results_mid_slot Tryz.results18 _ _ w.heap.size (msC X) _ _ rfl rfl (HV4.out.sets (msC X) rfl).range Tryz.underlying36 rfl (infoMsn X)
                  · have h1 : (vMs X == 0) = false := by simpa using h0
                    have h2' : (vMs X != 0) = true := by simpa using h0
                    have HY : Hid (decMs s = none) := Lib.hid (by rw [HSpec2.out, if_neg]; simp [h0])
                    clear h0
                    go_wp2_with (refine wpList_store_mid rfl 36 _ _ rfl w.heap.size 0 (msC ms0).toArray rfl rfl (HV4.out.there rfl) (infoMsn ms0) (msC_one' ms0) ?_)
                    refine bodyPost_ret (v := .tuple #[.agg (msC ms0).toArray, .int .i64 2]) ?_ rfl (ret_decM_none HY.out (below_gr HB4.out (grown_vs (b := w.heap.size) (msC ms0)) (Nat.le_refl _)))
                    exact results_mid_slot Tryz.results18 _ _ w.heap.size (msC ms0) _ _ rfl rfl (HV4.out.sets (msC ms0) rfl).range Tryz.underlying36 rfl (infoMsn ms0)
end Go.Proofs.YtoehakekjlebdaaGreatDoor
