/- The reference's readSnapshot, in plain words. -/
import Derived.Test.YtoehakekjlebdaaGreatDoorZGb
import Derived.Test.YtoehakekjlebdaaGreatDoorZSb
namespace Go.Proofs.YtoehakekjlebdaaGreatDoor
open Go.RowKit

/-- handovers, by the reference -/
def rkHo : Rc → Ho × Rc := rkThen (rkInts 1) fun n => rkThen rkDe fun e => rkRet ⟨n.getD 0 0, e⟩
theorem al2_ho : Al2 rdHo rkHo := al2_then (al2_rk _ _) fun _ => al2_then al2_de fun _ => al2_ret _
def Rc.fine (r : Rc) : Bool := r.ok && r.s.isEmpty
theorem ho_whole (t : List UInt8) : whole rdHo t = if (rkHo ⟨t, true⟩).2.fine then some (rkHo ⟨t, true⟩).1 else none := by
  unfold whole
  cases h : rdHo t with
  | none => rw [al2_ho.none t h]; rfl
  | some y =>
    obtain ⟨x, q⟩ := y
    rw [al2_ho.some t x q h]
    cases q with
    | nil => rfl
    | cons a b => rfl
theorem rkTexts_bad (r : Rc) (h : (rkTexts r).2.ok = false) : (rkTexts r).1 = [] := by
  obtain ⟨s, b⟩ := r
  cases b
  · rfl
  · unfold rkTexts rk at h ⊢
    simp only [if_true] at h ⊢
    cases hh : rdTexts s with
    | none => rfl
    | some y => rw [hh] at h; simp at h
theorem rkDe_len (r : Rc) : (rkDe r).2.s.length ≤ r.s.length := by
  show (rkSgs (rkText (rkInts 1 r).2).2).2.s.length ≤ _
  exact Nat.le_trans (rkSgs_len _) (Nat.le_trans (rkText_len2 _) (rkInts_len 1 r))
/-- the state of the loop over the chain -/
structure ChSt (w : World) (b5 : Nat) (W0 : World → Prop) (l : List (List UInt8)) (j : Nat) (o : Value) (xs : List Ho) (B : Nat) (F : Nat → Prop) (wr : World) : Prop where
  len : xs.length = j
  own : wr.ownsRow B 127 4 o j (xs.flatMap hoC)
  size : B ≤ wr.heap.size
  foot : Foot F (fun W => W0 W ∧ ∀ y ∈ xs, y.ok W) wr
  fin : ∀ i, F i → w.heap.size + 3 ≤ i ∧ i < wr.heap.size ∧ i ≠ b5 ∧ o.ownBlock ≠ some i
  all : many rdHo l = match many rdHo (l.drop j) with
    | none => none
    | some ys => some (xs.map Ho.er ++ ys)
theorem ChSt.start {w u : World} {b5 : Nat} {W0 : World → Prop} {l : List (List UInt8)} (h : Held (w.heap.size + 3) b5 W0 u) (_hm : many rdHo l = many rdHo l) : ∃ F, ChSt w b5 W0 l 0 (.slice none 0 0) [] u.heap.size F u := by
  obtain ⟨F, h1, h2⟩ := h
  refine ⟨F, rfl, World.ownsRow_nil _ _ _ _, Nat.le_refl _, fun w' a b => ⟨h1 w' a b, by simp⟩, fun i hi => ⟨(h2 i hi).1, (h2 i hi).2.1, (h2 i hi).2.2, by simp [Value.ownBlock]⟩, ?_⟩
  rw [List.drop_zero]
  cases many rdHo l <;> rfl
theorem Held.and {a b4 : Nat} {P Q : World → Prop} {W : World} (h : Held a b4 P W) (k : Held a b4 Q W) : Held a b4 (fun w => P w ∧ Q w) W := by
  obtain ⟨F, f1, f2⟩ := h
  obtain ⟨G, g1, g2⟩ := k
  exact ⟨fun i => F i ∨ G i, (f1.mono (fun _ hi => Or.inl hi)).imp2 (g1.mono (fun _ hi => Or.inr hi)) (fun _ a b => ⟨a, b⟩), fun i hi => by
    rcases hi with hi | hi
    · exact f2 i hi
    · exact g2 i hi⟩
/-- behind the round: the row has grown, and the struct's slice is the new one -/
theorem ChSt.step {w wr wa w2 : World} {b5 : Nat} {W0 : World → Prop} {l : List (List UInt8)} {j : Nat} {o v' : Value} {xs : List Ho} {B u : Nat} {F : Nat → Prop} {x : Ho}
    (h : ChSt w b5 W0 l j o xs B F wr) (hB : b5 < B) (hw : w.heap.size + 3 ≤ B) (hb : Below wr.heap.size wr wa) (hj : j < l.length) (hx : whole rdHo l[j] = some x.er) (hu : wr.heap.size ≤ u) (hst : Stays u (x.ok) wa)
    (hown : w2.ownsRow B 127 4 v' (j + 1) (xs.flatMap hoC ++ hoC x)) (hgr : wa.grownBy w2 o.ownBlock) (hat : v'.ownBlock = o.ownBlock ∨ v'.ownBlock = some wa.heap.size) :
    ChSt w b5 W0 l (j + 1) v' (xs ++ [x]) B (fun i => F i ∨ (u ≤ i ∧ i < wa.heap.size)) (w2.setCell ⟨b5, 4, none⟩ v') := by
  have z1 := hb.size
  have z2 := hgr.size
  have z3 := h.size
  have hok : ∀ b, o.ownBlock = some b → B ≤ b ∧ b < wr.heap.size := fun b hb => h.own.lt b hb
  have hset : ∀ k, k ≠ b5 → (w2.setCell ⟨b5, 4, none⟩ v').heap[k]? = w2.heap[k]? := fun k hk => heap_setCell_other w2 ⟨b5, 4, none⟩ k v' (fun e => by first | exact hk e | exact hk e.symm)
  have hsz : (w2.setCell ⟨b5, 4, none⟩ v').heap.size = w2.heap.size := by simp
  have h23 : ∀ k, k < wa.heap.size → o.ownBlock ≠ some k → k ≠ b5 → (w2.setCell ⟨b5, 4, none⟩ v').heap[k]? = wa.heap[k]? := fun k hk hne hn5 => (hset k hn5).trans (hgr.block k hk (fun e => hne e.symm))
  have hF : ∀ i, F i → (w2.setCell ⟨b5, 4, none⟩ v').heap[i]? = wr.heap[i]? := fun i hi => by
    obtain ⟨a1, a2, a3, a4⟩ := h.fin i hi
    exact (h23 i (by omega) a4 a3).trans (hb.block i a2)
  refine ⟨by simp [h.len], ?_, by omega, ?_, ?_, ?_⟩
  · rw [List.flatMap_append, show [x].flatMap hoC = hoC x from by simp]
    refine hown.kept (grown_set w2 ⟨b5, 4, none⟩ v') ?_
    cases ho : v'.ownBlock with
    | none => exact .inl rfl
    | some b =>
      have := (hown.lt b ho).1
      exact .inr (fun e => by simp only [Option.some.injEq] at e; omega)
  · refine ((h.foot.on (by omega) hF).mono (fun i hi => Or.inl hi)).imp2 (Q := x.ok) (((foot_stays hst).on (by omega) (fun i hi => h23 i hi.2 (fun e => by have := (hok i e).2; have := hi.1; omega) (by have := hi.1; omega))).mono (fun i hi => Or.inr hi)) (fun w' a b => ⟨a.1, fun y hy => ?_⟩)
    rcases List.mem_append.1 hy with hy | hy
    · exact a.2 y hy
    · rw [List.mem_singleton] at hy; subst hy; exact b
  · intro i hi
    rcases hi with hi | ⟨a1, a2⟩
    · obtain ⟨b1, b2, b3, b4⟩ := h.fin i hi
      refine ⟨b1, by omega, b3, ?_⟩
      rcases hat with e | e
      · rw [e]; exact b4
      · rw [e]; intro e2; simp only [Option.some.injEq] at e2; omega
    · refine ⟨by omega, by omega, by omega, ?_⟩
      rcases hat with e | e
      · rw [e]; intro e2; have := (hok i e2).2; omega
      · rw [e]; intro e2; simp only [Option.some.injEq] at e2; omega
  · rw [h.all, List.drop_eq_getElem_cons hj, many, hx]
    simp only
    cases many rdHo (l.drop (j + 1)) with
    | none => rfl
    | some ys => simp
theorem ChSt.vr {w wr wa w2 : World} {b5 b : Nat} {W0 : World → Prop} {l : List (List UInt8)} {j : Nat} {o : Value} {xs : List Ho} {B : Nat} {F : Nat → Prop} {cs : List Value}
    (h : ChSt w b5 W0 l j o xs B F wr) (hb : Below wr.heap.size wr wa) (hgr : wa.grownBy w2 o.ownBlock) (hv : Vr wr b cs) (hbB : b < B) : Vr w2 b cs := by
  have hv1 := hv.below hb
  cases ho : o.ownBlock with
  | none => rw [ho] at hgr; exact hv1.below ⟨hgr.os, hgr.tape, hgr.output, hgr.size, fun i hi => hgr.block i hi (by simp)⟩
  | some q =>
    rw [ho] at hgr
    exact hv1.grown hgr (by have := (h.own.lt q ho).1; omega)
theorem ChSt.low {w wr wa w2 : World} {b5 : Nat} {W0 : World → Prop} {l : List (List UInt8)} {j : Nat} {o v' : Value} {xs : List Ho} {B : Nat} {F : Nat → Prop}
    (h : ChSt w b5 W0 l j o xs B F wr) (hB : b5 < B) (h5 : w.heap.size ≤ b5) (hw : Below w.heap.size w wr) (hb : Below wr.heap.size wr wa) (hgr : wa.grownBy w2 o.ownBlock) : Below w.heap.size w (w2.setCell ⟨b5, 4, none⟩ v') := by
  have h1 := bon hw hb
  have h2 : Below w.heap.size w w2 := below_grown h1 h1.size hgr (fun g hg => by have := (h.own.lt g hg).1; omega)
  exact below_gr h2 (grown_set w2 ⟨b5, 4, none⟩ v') h5
theorem held_row {a b4 B k n : Nat} {A : Option Addr} {c : Nat} {xs : List Value} {W : World} (h : W.ownsRow B 127 k (.slice A n c) n xs) (ha : a ≤ B) (hb : b4 < B) : Held a b4 (fun W => Rd W k A n xs) W := by
  refine ⟨fun i => Value.ownBlock (.slice A n c) = some i, fun w' hs hk => ?_, fun i hi => ⟨by have := (h.lt i hi).1; omega, (h.lt i hi).2, by have := (h.lt i hi).1; omega⟩⟩
  refine Rd.own (base := B) (e := 127) (c := c) ⟨h.1, ?_⟩
  rcases h.2 with h1 | ⟨g, cap, cur, hv, hge, hg, rest⟩
  · exact .inl h1
  · exact .inr ⟨g, cap, cur, hv, hge, (hk g (by rw [hv]; rfl)).trans hg, rest⟩
theorem ChSt.held {w : World} {b5 : Nat} {W0 : World → Prop} {l : List (List UInt8)} {j : Nat} {o : Value} {xs : List Ho} {B : Nat} {F : Nat → Prop} {wr : World} (h : ChSt w b5 W0 l j o xs B F wr) : Held (w.heap.size + 3) b5 (fun W => W0 W ∧ ∀ y ∈ xs, y.ok W) wr :=
  ⟨F, h.foot, fun i hi => ⟨(h.fin i hi).1, (h.fin i hi).2.1, (h.fin i hi).2.2.1⟩⟩
theorem Held.rowO {a b4 : Nat} {row : Option Nat} {P : World → Prop} {W W' : World} (h : Held a b4 P W) (hg : W.grownBy W' row) (hq : ∀ q, row = some q → q < a ∨ q = b4) : Held a b4 P W' := by
  cases row with
  | none => exact h.below ⟨hg.os, hg.tape, hg.output, hg.size, fun i hi => hg.block i hi (by simp)⟩
  | some q => exact h.row hg (hq q rfl)
theorem rkSn_eq (r : Rc) {n0 : Int} {t1 : List UInt8} {t2 t4 : List (List UInt8)} {t3 : List Sg} {r0 r1 r2 r3 r4 : Rc} (h0 : rkInts 1 r = ([n0], r0)) (h1 : rkText r0 = (t1, r1)) (h2 : rkTexts r1 = (t2, r2)) (h3 : rkSgs r2 = (t3, r3)) (h4 : rkTexts r3 = (t4, r4)) :
    rkSn r = match many rdHo t4 with
      | none => (⟨0, [], Sl.nil, Sl.nil, Sl.nil⟩, Rc.fail)
      | some hs => (⟨n0, t1, Sl.of t2, Sl.of t3, Sl.of hs⟩, r4) := by
  unfold rkSn
  simp only [h0, h1, h2, h3, h4]
  rfl
end Go.Proofs.YtoehakekjlebdaaGreatDoor
/- The reference's readSnapshot. -/
namespace Go.Proofs.YtoehakekjlebdaaGreatDoor
open Go.RowKit

set_option maxRecDepth 100000 in
set_option maxHeartbeats 8000000 in
theorem refReadSnapshot_any (r : Rc) (w : World) (hl : r.s.length ≤ 268435456) :
    Calls Tryz.prog 41 #[.agg #[.string ⟨r.s.toArray⟩, .bool r.ok]] w (RetRX snC Sn.er Sn.ok (rkSn r) w) := by
  have HTn := rkInts_ok 1 r
  obtain ⟨n0, hn⟩ := one_of _ HTn.1
  obtain ⟨r0, hr0⟩ : ∃ r0, r0 = (rkInts 1 r).2 := ⟨_, rfl⟩
  have HT0 : Hid (rkInts 1 r = ([n0], r0)) := Lib.hid (by rw [hr0, ← hn])
  have HN64 : Hid (∀ x ∈ [n0], I64 x) := Lib.hid (by rw [← hn]; exact HTn.2)
  have HL0 : Hid (r0.s.length ≤ 268435456) := Lib.hid (by rw [hr0]; exact Nat.le_trans (rkInts_len 1 r) hl)
  clear HTn hn hr0
  obtain ⟨t1, r1, ht1⟩ : ∃ t s', rkText r0 = (t, s') := ⟨_, _, rfl⟩
  have HL1 : Hid (r1.s.length ≤ 268435456) := Lib.hid (by have h9 := rkText_len2 r0; rw [ht1] at h9; exact Nat.le_trans h9 HL0.out)
  have HTL1 : Hid (t1.length ≤ 268435456) := Lib.hid (by have h9 := (rkText_len r0).1; rw [ht1] at h9; exact Nat.le_trans h9 HL0.out)
  have HT1 := Lib.hid ht1
  clear ht1
  obtain ⟨t2, r2, ht2⟩ : ∃ t s', rkTexts r1 = (t, s') := ⟨_, _, rfl⟩
  have HL2 : Hid (r2.s.length ≤ 268435456) := Lib.hid (by have h9 := rkTexts_len2 r1; rw [ht2] at h9; exact Nat.le_trans h9 HL1.out)
  have HTL2 : Hid (sum szS t2 ≤ 268435456) := Lib.hid (by have h9 := (rkTexts_len r1).1; rw [ht2] at h9; exact Nat.le_trans h9 HL1.out)
  have HT2 := Lib.hid ht2
  clear ht2
  obtain ⟨t3, r3, ht3⟩ : ∃ t s', rkSgs r2 = (t, s') := ⟨_, _, rfl⟩
  have HL3 : Hid (r3.s.length ≤ 268435456) := Lib.hid (by have h9 := rkSgs_len r2; rw [ht3] at h9; exact Nat.le_trans h9 HL2.out)
  have HT3 := Lib.hid ht3
  clear ht3
  obtain ⟨t4, r4, ht4⟩ : ∃ t s', rkTexts r3 = (t, s') := ⟨_, _, rfl⟩
  have HL4 : Hid (r4.s.length ≤ 268435456) := Lib.hid (by have h9 := rkTexts_len2 r3; rw [ht4] at h9; exact Nat.le_trans h9 HL3.out)
  have HTL4 : Hid (sum szS t4 ≤ 268435456) := Lib.hid (by have h9 := (rkTexts_len r3).1; rw [ht4] at h9; exact Nat.le_trans h9 HL3.out)
  have HT4 := Lib.hid ht4
  clear ht4
  have HSpec := Lib.hid (rkSn_eq r HT0.out HT1.out HT2.out HT3.out HT4.out)
  have ht4 : t4.length ≤ 268435456 := by have h8 := sum_ge szS t4 1 szS_ge; have h9 := HTL4.out; omega
  obtain ⟨i0, hi, hz0, hz1, hz2⟩ := info_parts infoHor
  have HI := Lib.hid hi
  have HZ0 := Lib.hid hz0
  have HZ1 := Lib.hid hz1
  have HZ2 := Lib.hid hz2
  clear hi hz0 hz1 hz2
  obtain ⟨wa, hwa⟩ : ∃ wa, wa = ((w.alloc (.cells (rcC r).toArray 63)).alloc (.cells #[.int .i64 0, .string ⟨#[]⟩, .slice none 0 0, .slice none 0 0, .slice none 0 0] 34)).alloc (.cells (rcC Rc.fail).toArray 63) := ⟨_, rfl⟩
  have HR : Hid (Vr wa w.heap.size (rcC r)) := Lib.hid (by rw [hwa]; exact ((Vr.new w (rcC r) 63).below (below_new _ _)).below (below_new _ _))
  have HV : Hid (Vr wa (w.heap.size + 1) [.int .i64 0, .string ⟨#[]⟩, .slice none 0 0, .slice none 0 0, .slice none 0 0]) := Lib.hid (by rw [hwa]; exact (Vr.new' _ [.int .i64 0, .string ⟨#[]⟩, .slice none 0 0, .slice none 0 0, .slice none 0 0] 34 (by simp)).below (below_new _ _))
  have HQ : Hid (Vr wa (w.heap.size + 2) (rcC Rc.fail)) := Lib.hid (by rw [hwa]; exact Vr.new' _ (rcC Rc.fail) 63 (by simp))
  have HB : Hid (Below w.heap.size w wa) := Lib.hid (by rw [hwa]; exact bon (bon (below_new _ _) (below_new _ _)) (below_new _ _))
  have HZa : Hid (wa.heap.size = w.heap.size + 3) := Lib.hid (by rw [hwa]; simp)
  have hwa2 : ((w.alloc (.cells #[.string ⟨r.s.toArray⟩, .bool r.ok] 63)).alloc (.cells #[.int .i64 0, .string ⟨#[]⟩, .slice none 0 0, .slice none 0 0, .slice none 0 0] 34)).alloc (.cells #[.string ⟨#[]⟩, .bool false] 63) = wa := hwa.symm
  have HW := Lib.hid hwa2
  clear hwa hwa2
  go_enter Tryz.func41, Tryz.ntmps41
  go_upto_region 1 with fail
  rw [HW.out]
  go_wp2_with (refine wpList_load_mid rfl 63 _ rfl w.heap.size 0 rfl (rcC r) _ HR.out.range Tryz.underlying63 rfl (infoRc r) ?_)
  refine (refInts1_any r wa hl).mono ?_
  rintro e u1 ⟨A, c, he, hst0, hb⟩
  rw [HT0.out] at he hst0
  obtain rfl : e = .returned (.tuple #[.slice A 1 c, .agg (rcC r0).toArray]) := he
  rw [HZa.out] at hst0
  have h3 := hb.size
  rw [HZa.out] at h3
  have HR := Lib.hid (HR.out.below hb)
  have HV := Lib.hid (HV.out.below hb)
  have HQ := Lib.hid (HQ.out.below hb)
  have HB := Lib.hid (bon HB.out hb)
  have HRo := HR
  have HV := Lib.hid (HV.out.grown (grown_vs (b := w.heap.size) (rcC r0)) (by omega))
  have HQ := Lib.hid (HQ.out.grown (grown_vs (b := w.heap.size) (rcC r0)) (by omega))
  have HB := Lib.hid (below_gr HB.out (grown_vs (b := w.heap.size) (rcC r0)) (Nat.le_refl _))
  have HN := Lib.hid (hst0.on (keeps_grown (grown_vs (b := w.heap.size) (rcC r0)) (by omega)))
  have HR := Lib.hid (HR.out.sets (rcC r0) rfl)
  clear hb hst0
  go_upto_region 2 with (refine wpList_store_mid rfl 63 _ _ rfl w.heap.size 0 (rcC r0).toArray rfl rfl ?_ (infoRc r0) (rcC_one r0) ?_; · exact HRo.out.there (n := 2) rfl)
  try simp only [List.toList_toArray]
  clear HRo
  generalize u1.setCells w.heap.size 0 (rcC r0) = u2 at HR HV HQ HB HN ⊢
  have h5 : w.heap.size + 2 < u2.heap.size := HQ.out.lt
  obtain ⟨b, off, hA, hbl, hcc⟩ := ints_cells HN.out.out (by simp)
  subst hA
  have a0 : u2.cell? ⟨b, off, none⟩ = some (.int .i64 n0) := hcc 0 _ rfl
  have HX := Lib.hid (Vr.new u2 (snC ⟨n0, [], Sl.nil, Sl.nil, Sl.nil⟩) 34)
  have HR := Lib.hid (HR.out.below (below_new u2 (.cells (snC ⟨n0, [], Sl.nil, Sl.nil, Sl.nil⟩).toArray 34)))
  have HV := Lib.hid (HV.out.below (below_new u2 (.cells (snC ⟨n0, [], Sl.nil, Sl.nil, Sl.nil⟩).toArray 34)))
  have HQ := Lib.hid (HQ.out.below (below_new u2 (.cells (snC ⟨n0, [], Sl.nil, Sl.nil, Sl.nil⟩).toArray 34)))
  have HB := Lib.hid (bon HB.out (below_new u2 (.cells (snC ⟨n0, [], Sl.nil, Sl.nil, Sl.nil⟩).toArray 34)))
  clear hcc hbl HN
  go_upto_region 3 with fail
  obtain ⟨u3, hu3⟩ : ∃ u3, u3 = u2.alloc (.cells (snC ⟨n0, [], Sl.nil, Sl.nil, Sl.nil⟩).toArray 34) := ⟨_, rfl⟩
  rw [← hu3] at HX HR HV HQ HB
  change Code.wp _ _ _ _ (u2.alloc (.cells (snC ⟨n0, [], Sl.nil, Sl.nil, Sl.nil⟩).toArray 34))
  rw [← hu3]
  generalize u2.heap.size = b5 at HX h5 ⊢
  clear hu3 a0
  go_wp2_with (refine wpList_load_mid rfl 63 _ rfl w.heap.size 0 rfl (rcC r0) _ HR.out.range Tryz.underlying63 rfl (infoRc r0) ?_)
  refine (refText_any r0 _ HL0.out).mono ?_
  rintro e u4 ⟨he, hb⟩
  rw [HT1.out] at he
  obtain rfl : e = .returned (.tuple #[.string ⟨t1.toArray⟩, .agg (rcC r1).toArray]) := he
  have HR := Lib.hid (HR.out.below hb)
  have HX := Lib.hid (HX.out.below hb)
  have HV := Lib.hid (HV.out.below hb)
  have HQ := Lib.hid (HQ.out.below hb)
  have HB := Lib.hid (bon HB.out hb)
  clear hb
  have cx := HX.out.cells 1 _ rfl
  have fx := HX.out.free 1 (of_decide_eq_true rfl)
  have lx := HX.out.lt
  have HR := Lib.hid (HR.out.grown (grown_set u4 ⟨b5, 1, none⟩ (.string ⟨t1.toArray⟩)) (by show w.heap.size ≠ b5; omega))
  have HX := Lib.hid ((HX.out.set 1 (.string ⟨t1.toArray⟩)).eq (cs' := snC ⟨n0, t1, Sl.nil, Sl.nil, Sl.nil⟩) rfl)
  have HV := Lib.hid (HV.out.grown (grown_set u4 ⟨b5, 1, none⟩ (.string ⟨t1.toArray⟩)) (by show (w.heap.size + 1) ≠ b5; omega))
  have HQ := Lib.hid (HQ.out.grown (grown_set u4 ⟨b5, 1, none⟩ (.string ⟨t1.toArray⟩)) (by show (w.heap.size + 2) ≠ b5; omega))
  have HB := Lib.hid (below_gr HB.out (grown_set u4 ⟨b5, 1, none⟩ (.string ⟨t1.toArray⟩)) (by show w.heap.size ≤ b5; omega))
  have HRo := HR
  have HR := Lib.hid (HR.out.sets (rcC r1) rfl)
  have HX := Lib.hid (HX.out.grown (grown_vs (w := (u4.setCell ⟨b5, 1, none⟩ (.string ⟨t1.toArray⟩))) (b := w.heap.size) (rcC r1)) (by show b5 ≠ w.heap.size; omega))
  have HV := Lib.hid (HV.out.grown (grown_vs (w := (u4.setCell ⟨b5, 1, none⟩ (.string ⟨t1.toArray⟩))) (b := w.heap.size) (rcC r1)) (by show (w.heap.size + 1) ≠ w.heap.size; omega))
  have HQ := Lib.hid (HQ.out.grown (grown_vs (w := (u4.setCell ⟨b5, 1, none⟩ (.string ⟨t1.toArray⟩))) (b := w.heap.size) (rcC r1)) (by show (w.heap.size + 2) ≠ w.heap.size; omega))
  have HB := Lib.hid (below_gr HB.out (grown_vs (w := (u4.setCell ⟨b5, 1, none⟩ (.string ⟨t1.toArray⟩))) (b := w.heap.size) (rcC r1)) (by show w.heap.size ≤ w.heap.size; omega))
  go_upto_region 4 with (first | (refine wpList_store_mid rfl 63 _ _ rfl w.heap.size 0 (rcC r1).toArray rfl rfl ?_ (infoRc r1) (rcC_one r1) ?_; · exact HRo.out.there (n := 2) rfl))
  try simp only [List.toList_toArray]
  clear HRo cx fx lx
  generalize ((u4.setCell ⟨b5, 1, none⟩ (.string ⟨t1.toArray⟩)).setCells w.heap.size 0 (rcC r1)) = u5 at HR HX HV HQ HB  ⊢
  go_wp2_with (refine wpList_load_mid rfl 63 _ rfl w.heap.size 0 rfl (rcC r1) _ HR.out.range Tryz.underlying63 rfl (infoRc r1) ?_)
  refine (refTexts_any r1 _ HL1.out).mono ?_
  rintro e u6 ⟨a2, c2, he, hst, hb⟩
  rw [HT2.out] at he hst
  obtain rfl : e = .returned (.tuple #[.slice a2 t2.length c2, .agg (rcC r2).toArray]) := he
  have HR2 := Lib.hid (held_new (a := w.heap.size + 3) (b4 := b5) hst (by have := HX.out.lt; have := HQ.out.lt; omega) (Or.inl HX.out.lt))
  have HR := Lib.hid (HR.out.below hb)
  have HX := Lib.hid (HX.out.below hb)
  have HV := Lib.hid (HV.out.below hb)
  have HQ := Lib.hid (HQ.out.below hb)
  have HB := Lib.hid (bon HB.out hb)
  clear hst
  clear hb
  have cx := HX.out.cells 2 _ rfl
  have fx := HX.out.free 2 (of_decide_eq_true rfl)
  have lx := HX.out.lt
  have HR := Lib.hid (HR.out.grown (grown_set u6 ⟨b5, 2, none⟩ (.slice a2 t2.length c2)) (by show w.heap.size ≠ b5; omega))
  have HX := Lib.hid ((HX.out.set 2 (.slice a2 t2.length c2)).eq (cs' := snC ⟨n0, t1, ⟨a2, c2, t2⟩, Sl.nil, Sl.nil⟩) rfl)
  have HV := Lib.hid (HV.out.grown (grown_set u6 ⟨b5, 2, none⟩ (.slice a2 t2.length c2)) (by show (w.heap.size + 1) ≠ b5; omega))
  have HQ := Lib.hid (HQ.out.grown (grown_set u6 ⟨b5, 2, none⟩ (.slice a2 t2.length c2)) (by show (w.heap.size + 2) ≠ b5; omega))
  have HB := Lib.hid (below_gr HB.out (grown_set u6 ⟨b5, 2, none⟩ (.slice a2 t2.length c2)) (by show w.heap.size ≤ b5; omega))
  have HR2 := Lib.hid (HR2.out.row (grown_set u6 ⟨b5, 2, none⟩ (.slice a2 t2.length c2)) (by show b5 < w.heap.size + 3 ∨ b5 = b5; omega))
  have HRo := HR
  have HR := Lib.hid (HR.out.sets (rcC r2) rfl)
  have HX := Lib.hid (HX.out.grown (grown_vs (w := (u6.setCell ⟨b5, 2, none⟩ (.slice a2 t2.length c2))) (b := w.heap.size) (rcC r2)) (by show b5 ≠ w.heap.size; omega))
  have HV := Lib.hid (HV.out.grown (grown_vs (w := (u6.setCell ⟨b5, 2, none⟩ (.slice a2 t2.length c2))) (b := w.heap.size) (rcC r2)) (by show (w.heap.size + 1) ≠ w.heap.size; omega))
  have HQ := Lib.hid (HQ.out.grown (grown_vs (w := (u6.setCell ⟨b5, 2, none⟩ (.slice a2 t2.length c2))) (b := w.heap.size) (rcC r2)) (by show (w.heap.size + 2) ≠ w.heap.size; omega))
  have HB := Lib.hid (below_gr HB.out (grown_vs (w := (u6.setCell ⟨b5, 2, none⟩ (.slice a2 t2.length c2))) (b := w.heap.size) (rcC r2)) (by show w.heap.size ≤ w.heap.size; omega))
  have HR2 := Lib.hid (HR2.out.row (grown_vs (w := (u6.setCell ⟨b5, 2, none⟩ (.slice a2 t2.length c2))) (b := w.heap.size) (rcC r2)) (by show w.heap.size < w.heap.size + 3 ∨ w.heap.size = b5; omega))
  go_upto_region 5 with (first | (refine wpList_store_mid rfl 63 _ _ rfl w.heap.size 0 (rcC r2).toArray rfl rfl ?_ (infoRc r2) (rcC_one r2) ?_; · exact HRo.out.there (n := 2) rfl))
  try simp only [List.toList_toArray]
  clear HRo cx fx lx
  generalize ((u6.setCell ⟨b5, 2, none⟩ (.slice a2 t2.length c2)).setCells w.heap.size 0 (rcC r2)) = u7 at HR HX HV HQ HB HR2 ⊢
  go_wp2_with (refine wpList_load_mid rfl 63 _ rfl w.heap.size 0 rfl (rcC r2) _ HR.out.range Tryz.underlying63 rfl (infoRc r2) ?_)
  refine (refSigned_any r2 _ HL2.out).mono ?_
  rintro e u8 ⟨a3, c3, he, hst, hb⟩
  rw [HT3.out] at he hst
  obtain rfl : e = .returned (.tuple #[.slice a3 t3.length c3, .agg (rcC r3).toArray]) := he
  have HR3 := Lib.hid (held_new (a := w.heap.size + 3) (b4 := b5) hst (by have := HX.out.lt; have := HQ.out.lt; omega) (Or.inl HX.out.lt))
  have HR := Lib.hid (HR.out.below hb)
  have HX := Lib.hid (HX.out.below hb)
  have HV := Lib.hid (HV.out.below hb)
  have HQ := Lib.hid (HQ.out.below hb)
  have HB := Lib.hid (bon HB.out hb)
  have HR2 := Lib.hid (HR2.out.below hb)
  clear hst
  clear hb
  have cx := HX.out.cells 3 _ rfl
  have fx := HX.out.free 3 (of_decide_eq_true rfl)
  have lx := HX.out.lt
  have HR := Lib.hid (HR.out.grown (grown_set u8 ⟨b5, 3, none⟩ (.slice a3 t3.length c3)) (by show w.heap.size ≠ b5; omega))
  have HX := Lib.hid ((HX.out.set 3 (.slice a3 t3.length c3)).eq (cs' := snC ⟨n0, t1, ⟨a2, c2, t2⟩, ⟨a3, c3, t3⟩, Sl.nil⟩) rfl)
  have HV := Lib.hid (HV.out.grown (grown_set u8 ⟨b5, 3, none⟩ (.slice a3 t3.length c3)) (by show (w.heap.size + 1) ≠ b5; omega))
  have HQ := Lib.hid (HQ.out.grown (grown_set u8 ⟨b5, 3, none⟩ (.slice a3 t3.length c3)) (by show (w.heap.size + 2) ≠ b5; omega))
  have HB := Lib.hid (below_gr HB.out (grown_set u8 ⟨b5, 3, none⟩ (.slice a3 t3.length c3)) (by show w.heap.size ≤ b5; omega))
  have HR2 := Lib.hid (HR2.out.row (grown_set u8 ⟨b5, 3, none⟩ (.slice a3 t3.length c3)) (by show b5 < w.heap.size + 3 ∨ b5 = b5; omega))
  have HR3 := Lib.hid (HR3.out.row (grown_set u8 ⟨b5, 3, none⟩ (.slice a3 t3.length c3)) (by show b5 < w.heap.size + 3 ∨ b5 = b5; omega))
  have HRo := HR
  have HR := Lib.hid (HR.out.sets (rcC r3) rfl)
  have HX := Lib.hid (HX.out.grown (grown_vs (w := (u8.setCell ⟨b5, 3, none⟩ (.slice a3 t3.length c3))) (b := w.heap.size) (rcC r3)) (by show b5 ≠ w.heap.size; omega))
  have HV := Lib.hid (HV.out.grown (grown_vs (w := (u8.setCell ⟨b5, 3, none⟩ (.slice a3 t3.length c3))) (b := w.heap.size) (rcC r3)) (by show (w.heap.size + 1) ≠ w.heap.size; omega))
  have HQ := Lib.hid (HQ.out.grown (grown_vs (w := (u8.setCell ⟨b5, 3, none⟩ (.slice a3 t3.length c3))) (b := w.heap.size) (rcC r3)) (by show (w.heap.size + 2) ≠ w.heap.size; omega))
  have HB := Lib.hid (below_gr HB.out (grown_vs (w := (u8.setCell ⟨b5, 3, none⟩ (.slice a3 t3.length c3))) (b := w.heap.size) (rcC r3)) (by show w.heap.size ≤ w.heap.size; omega))
  have HR2 := Lib.hid (HR2.out.row (grown_vs (w := (u8.setCell ⟨b5, 3, none⟩ (.slice a3 t3.length c3))) (b := w.heap.size) (rcC r3)) (by show w.heap.size < w.heap.size + 3 ∨ w.heap.size = b5; omega))
  have HR3 := Lib.hid (HR3.out.row (grown_vs (w := (u8.setCell ⟨b5, 3, none⟩ (.slice a3 t3.length c3))) (b := w.heap.size) (rcC r3)) (by show w.heap.size < w.heap.size + 3 ∨ w.heap.size = b5; omega))
  go_upto_region 6 with (first | (refine wpList_store_mid rfl 63 _ _ rfl w.heap.size 0 (rcC r3).toArray rfl rfl ?_ (infoRc r3) (rcC_one r3) ?_; · exact HRo.out.there (n := 2) rfl))
  try simp only [List.toList_toArray]
  clear HRo cx fx lx
  generalize ((u8.setCell ⟨b5, 3, none⟩ (.slice a3 t3.length c3)).setCells w.heap.size 0 (rcC r3)) = u9 at HR HX HV HQ HB HR2 HR3 ⊢
  go_wp2_with (refine wpList_load_mid rfl 63 _ rfl w.heap.size 0 rfl (rcC r3) _ HR.out.range Tryz.underlying63 rfl (infoRc r3) ?_)
  refine (refTexts_any r3 _ HL3.out).mono ?_
  rintro e u10 ⟨a4, c4, he, hst, hb⟩
  rw [HT4.out] at he hst
  obtain rfl : e = .returned (.tuple #[.slice a4 t4.length c4, .agg (rcC r4).toArray]) := he
  have HR4 := Lib.hid (held_new (a := w.heap.size + 3) (b4 := b5) hst (by have := HX.out.lt; have := HQ.out.lt; omega) (Or.inl HX.out.lt))
  have HR := Lib.hid (HR.out.below hb)
  have HX := Lib.hid (HX.out.below hb)
  have HV := Lib.hid (HV.out.below hb)
  have HQ := Lib.hid (HQ.out.below hb)
  have HB := Lib.hid (bon HB.out hb)
  have HR2 := Lib.hid (HR2.out.below hb)
  have HR3 := Lib.hid (HR3.out.below hb)
  clear hst hb
  have HRo := HR
  have HR := Lib.hid (HR.out.sets (rcC r4) rfl)
  have HX := Lib.hid (HX.out.grown (grown_vs (w := u10) (b := w.heap.size) (rcC r4)) (by show b5 ≠ w.heap.size; omega))
  have HV := Lib.hid (HV.out.grown (grown_vs (w := u10) (b := w.heap.size) (rcC r4)) (by show (w.heap.size + 1) ≠ w.heap.size; omega))
  have HQ := Lib.hid (HQ.out.grown (grown_vs (w := u10) (b := w.heap.size) (rcC r4)) (by show (w.heap.size + 2) ≠ w.heap.size; omega))
  have HB := Lib.hid (below_gr HB.out (grown_vs (w := u10) (b := w.heap.size) (rcC r4)) (by show w.heap.size ≤ w.heap.size; omega))
  have HR2 := Lib.hid (HR2.out.row (grown_vs (w := u10) (b := w.heap.size) (rcC r4)) (by show w.heap.size < w.heap.size + 3 ∨ w.heap.size = b5; omega))
  have HR3 := Lib.hid (HR3.out.row (grown_vs (w := u10) (b := w.heap.size) (rcC r4)) (by show w.heap.size < w.heap.size + 3 ∨ w.heap.size = b5; omega))
  have HR4 := Lib.hid (HR4.out.row (grown_vs (w := u10) (b := w.heap.size) (rcC r4)) (by show w.heap.size < w.heap.size + 3 ∨ w.heap.size = b5; omega))
  go_upto_region 7 with (refine wpList_store_mid rfl 63 _ _ rfl w.heap.size 0 (rcC r4).toArray rfl rfl ?_ (infoRc r4) (rcC_one r4) ?_; · exact HRo.out.there (n := 2) rfl)
  try simp only [List.toList_toArray]
  clear HRo
  generalize (u10.setCells w.heap.size 0 (rcC r4)) = u11 at HR HX HV HQ HB HR2 HR3 HR4 ⊢
  have hStart := ChSt.start (l := t4) (W0 := (fun W => (Rd W 1 a2 t2.length (strC t2) ∧ (Rd W 6 a3 t3.length (t3.flatMap sgC) ∧ ∀ y ∈ t3, y.ok)) ∧ Rd W 1 a4 t4.length (strC t4))) ((HR2.out.and HR3.out).and HR4.out) rfl
  obtain ⟨F0, hF0⟩ := hStart
  have hB5 := HX.out.lt
  have hB3 : w.heap.size + 3 ≤ u11.heap.size := by have := HQ.out.lt; omega
  have HX := Lib.hid (HX.out.eq (cs' := [.int .i64 n0, .string ⟨t1.toArray⟩, .slice a2 t2.length c2, .slice a3 t3.length c3, (.slice none 0 0)]) rfl)
  generalize hBe : u11.heap.size = B at hF0 hB5 hB3
  clear hBe HR2 HR3 HR4
  have HF0 := Lib.hid hF0
  clear hF0
  have h5a : w.heap.size + 3 ≤ b5 := by omega
  go_wp2_with fail
  go_loopw [7] (fun i wr => ∃ (j : Nat) (o : Value) (xs : List Ho) (F : Nat → Prop), i = .int .i64 j ∧ j ≤ t4.length ∧ ChSt w b5 (fun W => (Rd W 1 a2 t2.length (strC t2) ∧ (Rd W 6 a3 t3.length (t3.flatMap sgC) ∧ ∀ y ∈ t3, y.ok)) ∧ Rd W 1 a4 t4.length (strC t4)) t4 j o xs B F wr ∧ Vr wr w.heap.size (rcC r4) ∧ Vr wr b5 [.int .i64 n0, .string ⟨t1.toArray⟩, .slice a2 t2.length c2, .slice a3 t3.length c3, o] ∧ Vr wr (w.heap.size + 1) [.int .i64 0, .string ⟨#[]⟩, .slice none 0 0, .slice none 0 0, .slice none 0 0] ∧ Vr wr (w.heap.size + 2) (rcC Rc.fail) ∧ Below w.heap.size w wr) (fun i _ => t4.length - (intOf i).toNat)
  case atStart => exact ⟨0, _, _, _, rfl, by omega, HF0.out, HR.out, HX.out, HV.out, HQ.out, HB.out⟩
  case round =>
    obtain ⟨j, o, xs, F, rfl, hj, hCh, hR, hX, hV, hQ, hB0⟩ := hrel
    have HCh := Lib.hid hCh
    have HR := Lib.hid hR
    have HX := Lib.hid hX
    have HV := Lib.hid hV
    have HQ := Lib.hid hQ
    have HB := Lib.hid hB0
    clear hCh hR hX hV hQ hB0
    by_cases hlt1 : j < t4.length
    · have hok4 : r4.ok = true := by
        cases h : r4.ok with
        | true => rfl
        | false =>
          have h9 := rkTexts_bad r3 (by rw [HT4.out]; exact h)
          rw [HT4.out] at h9
          have h8 : t4 = [] := h9
          rw [h8] at hlt1
          simp at hlt1
      have i0' : (0 : Int) ≤ (j : Int) := by omega
      have i1 : (j : Int) < (t4.length : Int) := by omega
      obtain ⟨b, off, hA, hbl, hcc⟩ := (HCh.out.foot.out.1.2).cells (by rw [strC_len]; omega)
      subst hA
      obtain ⟨t, ht⟩ : ∃ t, t = t4[j] := ⟨_, rfl⟩
      have a0 : wr.cell? ⟨b, off + j, none⟩ = some (.string ⟨t.toArray⟩) := hcc j _ (by unfold strC; rw [List.getElem?_map, List.getElem?_eq_getElem hlt1, ht]; rfl)
      have cR : wr.cell? ⟨w.heap.size, 1, none⟩ = some (.bool true) := by have h9 := HR.out.cells 1 _ rfl; rw [hok4] at h9; exact h9
      have lR := HR.out.lt
      have HCC : Hid (∀ W, Below wr.heap.size wr W → W.cell? ⟨b, off + j, none⟩ = some (.string ⟨t.toArray⟩) ∧ W.cell? ⟨w.heap.size, 1, none⟩ = some (.bool true)) := Lib.hid (fun W hW => ⟨(hW.cell (p := ⟨b, off + j, none⟩) hbl).trans a0, (hW.cell (p := ⟨w.heap.size, 1, none⟩) lR).trans cR⟩)
      have htl : t.length ≤ 268435456 := by have h8 := sum_get szS t4 t (ht ▸ List.getElem_mem hlt1); have h9 := HTL4.out; unfold szS at h8 h9; omega
      have HTn := rkInts_ok 1 ⟨t, true⟩
      obtain ⟨k0, hk⟩ := one_of _ HTn.1
      obtain ⟨q1, hq1⟩ : ∃ q, q = (rkInts 1 ⟨t, true⟩).2 := ⟨_, rfl⟩
      have HTi : Hid (rkInts 1 ⟨t, true⟩ = ([k0], q1)) := Lib.hid (by rw [hq1, ← hk])
      have HK64 : Hid (I64 k0) := Lib.hid (by have h9 := HTn.2; rw [hk] at h9; exact h9 k0 (by simp))
      have HLq : Hid (q1.s.length ≤ 268435456) := Lib.hid (by rw [hq1]; exact Nat.le_trans (rkInts_len 1 ⟨t, true⟩) htl)
      obtain ⟨d, q2, hy2⟩ : ∃ d q2, rkDe q1 = (d, q2) := ⟨_, _, rfl⟩
      have HTy := Lib.hid hy2
      have HTq : Hid (rkHo ⟨t, true⟩ = (⟨k0, d⟩, q2)) := Lib.hid (by
        unfold rkHo rkThen rkRet
        simp only [HTi.out, HTy.out]
        rfl)
      have HTt := Lib.hid ht
      have HDr : Hid (t4.drop j = t :: t4.drop (j + 1)) := Lib.hid (by rw [List.drop_eq_getElem_cons hlt1, ht])
      clear ht hcc hbl hq1 hk HTn hy2 hok4
      go_wp2_with fail
      refine wp_region_noPanic ?_
      have HBr : Hid (Below wr.heap.size wr wr.drew) := Lib.hid (Below.refl _ _).drew
      generalize hv : wr.drew = v at HBr
      have hC := HCC.out v HBr.out
      have hsz : wr.heap.size ≤ v.heap.size := HBr.out.size
      refine wp_region_held_drew (S := fun W => W.cell? ⟨b, off + j, none⟩ = some (.string ⟨t.toArray⟩) ∧ W.cell? ⟨w.heap.size, 1, none⟩ = some (.bool true)) (by kernel_rfl) (by rw [hv]; exact hC) (fun hHeld => ?_)
      rw [hv] at hHeld ⊢
      clear hv
      refine wpAnyH_take (i := 0) (oi := _) (v := ?_) rfl (by kernel_rfl) (by kernel_rfl) (by kernel_rfl) (fun _ _ _ h => h) (Or.inl ⟨by rfl, ?_⟩) (by assumption) ?_
      rotate_left
      · intro W hSw; (try dsimp only at hSw); go_simp; try with_reducible rfl
      try simp only [Act.put, List.setIfInBounds_toArray, List.set_cons_zero, List.set_cons_succ, List.getElem_toArray, List.getElem_cons_zero]
      refine wpAnyH_take (i := 1) (oi := _) (v := ?_) rfl (by kernel_rfl) (by kernel_rfl) (by kernel_rfl) (fun _ _ _ h => h) (Or.inl ⟨by rfl, ?_⟩) (by assumption) ?_
      rotate_left
      · intro W hSw; (try dsimp only at hSw); go_simp; try with_reducible rfl
      try simp only [Act.put, List.setIfInBounds_toArray, List.set_cons_zero, List.set_cons_succ, List.getElem_toArray, List.getElem_cons_succ, List.getElem_cons_zero]
      refine wpAnyH_take (i := 2) (oi := _) (v := ?_) rfl (by kernel_rfl) (by kernel_rfl) (by kernel_rfl) (fun _ _ _ h => h) (Or.inl ⟨by rfl, ?_⟩) (by assumption) ?_
      rotate_left
      · intro W hSw; (try dsimp only at hSw); go_simp; try with_reducible rfl
      try simp only [Act.put, List.setIfInBounds_toArray, List.set_cons_zero, List.set_cons_succ, List.getElem_toArray, List.getElem_cons_succ, List.getElem_cons_zero]
      refine wpAnyH_take (i := 3) (oi := _) (v := ?_) rfl (by kernel_rfl) (by kernel_rfl) (by kernel_rfl) (fun _ _ _ h => h) (Or.inl ⟨by rfl, ?_⟩) (by assumption) ?_
      rotate_left
      · intro W hSw; (try dsimp only at hSw); go_simp; try with_reducible rfl
      try simp only [Act.put, List.setIfInBounds_toArray, List.set_cons_zero, List.set_cons_succ, List.getElem_toArray, List.getElem_cons_succ, List.getElem_cons_zero]
      refine wpAnyH_take (i := 4) (oi := _) (v := ?_) rfl (by kernel_rfl) (by kernel_rfl) (by kernel_rfl) (fun _ _ _ h => h) (Or.inl ⟨by rfl, ?_⟩) (by assumption) ?_
      rotate_left
      · intro W hSw; (try dsimp only at hSw); go_simp; try with_reducible rfl
      try simp only [Act.put, List.setIfInBounds_toArray, List.set_cons_zero, List.set_cons_succ, List.getElem_toArray, List.getElem_cons_succ, List.getElem_cons_zero]
      refine wpAnyH_take (i := 5) (oi := _) (v := ?_) rfl (by kernel_rfl) (by kernel_rfl) (by kernel_rfl) (fun _ _ _ h => h) (Or.inl ⟨by rfl, ?_⟩) (by assumption) ?_
      rotate_left
      · intro W hSw; (try dsimp only at hSw); go_simp; try with_reducible rfl
      try simp only [Act.put, List.setIfInBounds_toArray, List.set_cons_zero, List.set_cons_succ, List.getElem_toArray, List.getElem_cons_succ, List.getElem_cons_zero]
      refine wpAnyH_take (i := 6) (oi := _) (v := ?_) rfl (by kernel_rfl) (by kernel_rfl) (by kernel_rfl) (fun _ _ _ h => h) (Or.inl ⟨by rfl, ?_⟩) (by assumption) ?_
      rotate_left
      · intro W hSw; (try dsimp only at hSw); go_simp; try with_reducible rfl
      try simp only [Act.put, List.setIfInBounds_toArray, List.set_cons_zero, List.set_cons_succ, List.getElem_toArray, List.getElem_cons_succ, List.getElem_cons_zero]
      refine wpAnyH_ready (rs := [7, 11]) (by kernel_rfl) (by simp) ?_
      refine AllReadyH.cons (o := _) rfl (fun K hK => ?_) ?_
      · go_simp
        go_at_call 36
        refine (refInts1_any ⟨t, true⟩ v htl).mono ?_
        rintro e w9 ⟨A9, c9, he, hst, hb⟩
        rw [HTi.out] at he hst
        obtain rfl : e = .returned (.tuple #[.slice A9 1 c9, .agg (rcC q1).toArray]) := he
        have HN9 := Lib.hid (held_new (a := wr.heap.size) (b4 := w9.heap.size) hst hsz (Or.inr (Nat.le_refl _)))
        have HBr := Lib.hid (bon HBr.out hb)
        clear hst hb
        have hC2 := HCC.out w9 HBr.out
        go_wp2_with fail
        refine hK.out _ _ hC2 (fun hHeld => ?_)
        clear hK K
        try simp only [Act.put, List.setIfInBounds_toArray, List.set_cons_zero, List.set_cons_succ, List.getElem_toArray, List.getElem_cons_succ, List.getElem_cons_zero]
        refine wpAnyH_take (i := 8) (oi := _) (v := ?_) rfl (by kernel_rfl) (by kernel_rfl) (by kernel_rfl) (fun _ _ _ h => h) (Or.inl ⟨by rfl, ?_⟩) (by assumption) ?_
        rotate_left
        · intro W hSw; (try dsimp only at hSw); go_simp; try with_reducible rfl
        try simp only [Act.put, List.setIfInBounds_toArray, List.set_cons_zero, List.set_cons_succ, List.getElem_toArray, List.getElem_cons_succ, List.getElem_cons_zero]
        refine wpAnyH_take (i := 9) (oi := _) (v := ?_) rfl (by kernel_rfl) (by kernel_rfl) (by kernel_rfl) (fun _ _ _ h => h) (Or.inl ⟨by rfl, ?_⟩) (by assumption) ?_
        rotate_left
        · intro W hSw; (try dsimp only at hSw); go_simp; try with_reducible rfl
        try simp only [Act.put, List.setIfInBounds_toArray, List.set_cons_zero, List.set_cons_succ, List.getElem_toArray, List.getElem_cons_succ, List.getElem_cons_zero]
        refine wpAnyH_take (i := 10) (oi := _) (v := ?_) rfl (by kernel_rfl) (by kernel_rfl) (by kernel_rfl) (fun _ _ _ h => h) (Or.inl ⟨by rfl, ?_⟩) (by assumption) ?_
        rotate_left
        · intro W hSw; (try dsimp only at hSw); go_simp; try with_reducible rfl
        try simp only [Act.put, List.setIfInBounds_toArray, List.set_cons_zero, List.set_cons_succ, List.getElem_toArray, List.getElem_cons_succ, List.getElem_cons_zero]
        refine wpAnyH_ready (rs := [11]) (by kernel_rfl) (by simp) ?_
        refine AllReadyH.cons (o := _) rfl (fun K hK => ?_) AllReadyH.nil
        go_simp
        have H9 : Hid (Vr (w9.alloc (.cells #[.string ⟨#[]⟩, .bool false] 63)) w9.heap.size [.string ⟨#[]⟩, .bool false]) := Lib.hid (Vr.new _ _ _)
        have hb9 : wr.heap.size ≤ w9.heap.size := HBr.out.size
        have HBr := Lib.hid (bon HBr.out (below_new w9 (.cells #[.string ⟨#[]⟩, .bool false] 63)))
        have HN9 := Lib.hid (HN9.out.below (below_new w9 (.cells #[.string ⟨#[]⟩, .bool false] 63)))
        generalize w9.alloc (.cells #[.string ⟨#[]⟩, .bool false] 63) = w95 at H9 HBr HN9 ⊢
        generalize hb9e : w9.heap.size = b9 at H9 hb9 HN9 ⊢
        clear hb9e
        have hC3 := HCC.out w95 HBr.out
        refine hK.out _ _ hC3 (fun hHeld => ?_)
        clear hK K
        try simp only [Act.put, List.setIfInBounds_toArray, List.set_cons_zero, List.set_cons_succ, List.getElem_toArray, List.getElem_cons_succ, List.getElem_cons_zero]
        refine wpAnyH_take (i := 12) (oi := _) (v := ?_) rfl (by kernel_rfl) (by kernel_rfl) (by kernel_rfl) (fun _ _ _ h => h) (Or.inl ⟨by rfl, ?_⟩) (by assumption) ?_
        rotate_left
        · intro W hSw; (try dsimp only at hSw); go_simp; try with_reducible rfl
        try simp only [Act.put, List.setIfInBounds_toArray, List.set_cons_zero, List.set_cons_succ, List.getElem_toArray, List.getElem_cons_succ, List.getElem_cons_zero]
        refine wpAnyH_ready (rs := [13]) (by kernel_rfl) (by simp) ?_
        refine AllReadyH.cons (o := _) rfl (fun K hK => ?_) AllReadyH.nil
        rw [if_pos (by rfl)]
        refine wp_store_mid 63 _ _ rfl b9 0 (rcC q1).toArray rfl rfl (H9.out.there (n := 2) rfl) (infoRc q1) (rcC_one q1) ?_
        try simp only []
        have HBr := Lib.hid (below_gr HBr.out (grown_vs (b := b9) (rcC q1)) hb9)
        have HN9 := Lib.hid (HN9.out.row (grown_vs (b := b9) (rcC q1)) (Or.inr rfl))
        have H9 := Lib.hid (H9.out.sets (rcC q1) rfl)
        generalize w95.setCells b9 0 (rcC q1) = w10 at HBr HN9 H9 ⊢
        have hC4 := HCC.out w10 HBr.out
        refine hK.out _ _ hC4 (fun hHeld => ?_)
        clear hK K
        try simp only [Act.put, List.getElem_toArray, List.getElem_cons_succ, List.getElem_cons_zero]
        refine wpAnyH_done (by kernel_rfl) ?_ _
        refine NoPanic.normal ?_
        clear hC hC2 hC3 hC4 hHeld HCC a0 cR lR hsz
        have hb9l := H9.out.lt
        have hw10 := HBr.out.size
        go_wp2_with (refine wpList_load_mid rfl 63 _ rfl b9 0 rfl (rcC q1) _ H9.out.range Tryz.underlying63 rfl (infoRc q1) ?_)
        refine (refReadEntry_any q1 w10 HLq.out).mono ?_
        rintro e w11 ⟨y, he, hy, hst, hb⟩
        rw [HTy.out] at he hy
        obtain rfl : e = .returned (.tuple #[.agg #[.int .i64 y.view, .string ⟨y.value.toArray⟩, .slice y.cert.a y.cert.l.length y.cert.c], .agg (rcC q2).toArray]) := he
        have H9 := Lib.hid ((H9.out.below hb).below (below_new w11 (.cells (deC y).toArray 78)))
        have HBr := Lib.hid (bon (bon HBr.out hb) (below_new w11 (.cells (deC y).toArray 78)))
        have HN9 := Lib.hid ((HN9.out.below hb).below (below_new w11 (.cells (deC y).toArray 78)))
        have HY := Lib.hid (hst.on (keeps_below _ (below_new w11 (.cells (deC y).toArray 78))))
        have H10 := Lib.hid (Vr.new w11 (deC y) 78)
        have HYe := Lib.hid hy
        have hu10 : wr.heap.size ≤ w10.heap.size := hw10
        have h911 : b9 < w11.heap.size := Nat.lt_of_lt_of_le hb9l hb.size
        clear hst hb hy
        have HBr := Lib.hid (below_gr HBr.out (grown_vs (b := b9) (rcC q2)) hb9)
        have HN9 := Lib.hid (HN9.out.row (grown_vs (b := b9) (rcC q2)) (Or.inr rfl))
        have HY := Lib.hid (HY.out.on (keeps_grown (grown_vs (b := b9) (rcC q2)) hb9l))
        have H10 := Lib.hid (H10.out.grown (grown_vs (b := b9) (rcC q2)) (by omega))
        go_upto_region 12 with (refine wpList_store_mid rfl 63 _ _ rfl b9 0 (rcC q2).toArray rfl rfl ?_ (infoRc q2) (rcC_one q2) ?_; · exact H9.out.there (n := 2) rfl)
        try simp only [List.toList_toArray]
        have H9 := Lib.hid (H9.out.sets (rcC q2) rfl)
        change Code.wp _ _ _ _ ((w11.alloc (.cells (deC y).toArray 78)).setCells b9 0 (rcC q2))
        generalize (w11.alloc (.cells (deC y).toArray 78)).setCells b9 0 (rcC q2) = w12 at HBr HN9 HY H10 H9 ⊢
        generalize hb10 : w11.heap.size = b10 at H10 h911 ⊢
        have hb10w : wr.heap.size < b10 := by omega
        clear hb10
        have c90 := H9.out.cells 0 _ rfl
        have c91 := H9.out.cells 1 _ rfl
        have l9 := H9.out.lt
        obtain ⟨s2, k2⟩ := q2
        simp only at c90 c91
        cases k2 with
        | false =>
          have HWh : Hid (whole rdHo t = none) := Lib.hid (by rw [ho_whole, HTq.out]; rfl)
          have HR' := Lib.hid (HR.out.below HBr.out)
          have HV' := Lib.hid (HV.out.below HBr.out)
          have HQ' := Lib.hid (HQ.out.below HBr.out)
          have HB' := Lib.hid (bon HB.out HBr.out)
          have HQ1 := Lib.hid (HQ'.out.grown (grown_vs (b := w.heap.size + 1) (snC ⟨0, [], Sl.nil, Sl.nil, Sl.nil⟩)) (by omega))
          have HV1 := Lib.hid ((HV'.out.sets (snC ⟨0, [], Sl.nil, Sl.nil, Sl.nil⟩) rfl).grown (grown_vs (b := w.heap.size + 2) (rcC Rc.fail)) (by omega))
          have HQ2 := Lib.hid (HQ1.out.sets (rcC Rc.fail) rfl)
          have HBe := Lib.hid (below_gr (below_gr HB'.out (grown_vs (b := w.heap.size + 1) (snC ⟨0, [], Sl.nil, Sl.nil, Sl.nil⟩)) (by omega)) (grown_vs (b := w.heap.size + 2) (rcC Rc.fail)) (by omega))
          have HS : Hid (rkSn r = (⟨0, [], Sl.nil, Sl.nil, Sl.nil⟩, Rc.fail)) := Lib.hid (by rw [HSpec.out, HCh.out.all, HDr.out, many, HWh.out])
          go_wp2_with (first
            | (refine wpList_store_mid rfl 34 _ _ rfl (w.heap.size + 1) 0 (snC ⟨0, [], Sl.nil, Sl.nil, Sl.nil⟩).toArray rfl rfl ?_ (infoSnn ⟨0, [], Sl.nil, Sl.nil, Sl.nil⟩) (snC_one' ⟨0, [], Sl.nil, Sl.nil, Sl.nil⟩) ?_; · exact HV'.out.there rfl)
            | (refine wpList_store_mid rfl 63 _ _ rfl (w.heap.size + 2) 0 (rcC Rc.fail).toArray rfl rfl ?_ (infoRc Rc.fail) (rcC_one Rc.fail) ?_; · exact HQ1.out.there (n := 2) rfl))
          refine bodyPost_ret (v := .tuple #[.agg (snC ⟨0, [], Sl.nil, Sl.nil, Sl.nil⟩).toArray, .agg (rcC Rc.fail).toArray]) ?_ rfl (ret_rx (x := ⟨0, [], Sl.nil, Sl.nil, Sl.nil⟩) (r' := (⟨0, [], Sl.nil, Sl.nil, Sl.nil⟩, Rc.fail)) HS.out rfl rfl (fun W _ => ⟨⟨by decide, by decide⟩, Rd.nil _ _ _, ⟨Rd.nil _ _ _, by simp [Sl.nil]⟩, Rd.nil _ _ _, by simp [Sl.nil]⟩) HBe.out)
          exact results_mid2 Tryz.results41 _ _ (w.heap.size + 1) (w.heap.size + 2) (snC ⟨0, [], Sl.nil, Sl.nil, Sl.nil⟩) (rcC Rc.fail) _ _ rfl rfl HV1.out.range HQ2.out.range Tryz.underlying34 rfl (infoSnn ⟨0, [], Sl.nil, Sl.nil, Sl.nil⟩) Tryz.underlying63 rfl (infoRc Rc.fail)
        | true =>
          cases s2 with
          | cons q0 qs =>
            have HWh : Hid (whole rdHo t = none) := Lib.hid (by rw [ho_whole, HTq.out]; rfl)
            have HR' := Lib.hid (HR.out.below HBr.out)
            have HV' := Lib.hid (HV.out.below HBr.out)
            have HQ' := Lib.hid (HQ.out.below HBr.out)
            have HB' := Lib.hid (bon HB.out HBr.out)
            have HQ1 := Lib.hid (HQ'.out.grown (grown_vs (b := w.heap.size + 1) (snC ⟨0, [], Sl.nil, Sl.nil, Sl.nil⟩)) (by omega))
            have HV1 := Lib.hid ((HV'.out.sets (snC ⟨0, [], Sl.nil, Sl.nil, Sl.nil⟩) rfl).grown (grown_vs (b := w.heap.size + 2) (rcC Rc.fail)) (by omega))
            have HQ2 := Lib.hid (HQ1.out.sets (rcC Rc.fail) rfl)
            have HBe := Lib.hid (below_gr (below_gr HB'.out (grown_vs (b := w.heap.size + 1) (snC ⟨0, [], Sl.nil, Sl.nil, Sl.nil⟩)) (by omega)) (grown_vs (b := w.heap.size + 2) (rcC Rc.fail)) (by omega))
            have HS : Hid (rkSn r = (⟨0, [], Sl.nil, Sl.nil, Sl.nil⟩, Rc.fail)) := Lib.hid (by rw [HSpec.out, HCh.out.all, HDr.out, many, HWh.out])
            go_wp2_with (first
              | (refine wpList_store_mid rfl 34 _ _ rfl (w.heap.size + 1) 0 (snC ⟨0, [], Sl.nil, Sl.nil, Sl.nil⟩).toArray rfl rfl ?_ (infoSnn ⟨0, [], Sl.nil, Sl.nil, Sl.nil⟩) (snC_one' ⟨0, [], Sl.nil, Sl.nil, Sl.nil⟩) ?_; · exact HV'.out.there rfl)
              | (refine wpList_store_mid rfl 63 _ _ rfl (w.heap.size + 2) 0 (rcC Rc.fail).toArray rfl rfl ?_ (infoRc Rc.fail) (rcC_one Rc.fail) ?_; · exact HQ1.out.there (n := 2) rfl))
            refine bodyPost_ret (v := .tuple #[.agg (snC ⟨0, [], Sl.nil, Sl.nil, Sl.nil⟩).toArray, .agg (rcC Rc.fail).toArray]) ?_ rfl (ret_rx (x := ⟨0, [], Sl.nil, Sl.nil, Sl.nil⟩) (r' := (⟨0, [], Sl.nil, Sl.nil, Sl.nil⟩, Rc.fail)) HS.out rfl rfl (fun W _ => ⟨⟨by decide, by decide⟩, Rd.nil _ _ _, ⟨Rd.nil _ _ _, by simp [Sl.nil]⟩, Rd.nil _ _ _, by simp [Sl.nil]⟩) HBe.out)
            exact results_mid2 Tryz.results41 _ _ (w.heap.size + 1) (w.heap.size + 2) (snC ⟨0, [], Sl.nil, Sl.nil, Sl.nil⟩) (rcC Rc.fail) _ _ rfl rfl HV1.out.range HQ2.out.range Tryz.underlying34 rfl (infoSnn ⟨0, [], Sl.nil, Sl.nil, Sl.nil⟩) Tryz.underlying63 rfl (infoRc Rc.fail)
          | nil =>
            have HWh : Hid (whole rdHo t4[j] = some (Ho.er ⟨k0, y⟩)) := Lib.hid (by rw [← HTt.out, ho_whole, HTq.out]; show some (Ho.mk k0 d) = some (Ho.mk k0 y.er); rw [HYe.out])
            go_wp2_with fail
            clear c90 c91 l9
            refine wp_region_noPanic ?_
            have HBr := Lib.hid (HBr.out.drew)
            have H10 := Lib.hid (H10.out.below (Below.refl _ _).drew)
            have HN9 := Lib.hid (HN9.out.below (Below.refl _ _).drew)
            have HY := Lib.hid (HY.out.on (keeps_below _ (Below.refl _ _).drew))
            generalize hv : w12.drew = v at HBr H10 HN9 HY
            obtain ⟨bn, on, hA, hbl, hcc⟩ := ints_cells HN9.out.stays.out (by simp)
            subst hA
            have HNC : Hid (∀ W, Held wr.heap.size b9 (fun W => Rd W 1 (some ⟨bn, on, none⟩) 1 (intC [k0])) W → W.cell? ⟨bn, on, none⟩ = some (.int .i64 k0)) := Lib.hid (fun W hW => by
              obtain ⟨b2, o2, hA2, _, hc2⟩ := ints_cells hW.stays.out (by simp)
              simp only [Option.some.injEq, Addr.mk.injEq] at hA2
              obtain ⟨rfl, rfl, _⟩ := hA2
              exact hc2 0 _ rfl)
            have HXv := Lib.hid (HX.out.below HBr.out)
            have hC : v.cell? ⟨bn, on, none⟩ = some (.int .i64 k0) ∧ v.rangeAt b10 0 [.int .i64 y.view, .string ⟨y.value.toArray⟩, .slice y.cert.a y.cert.l.length y.cert.c] := ⟨HNC.out v HN9.out, H10.out.range⟩
            have c4 := HXv.out.cells 4 _ rfl
            have l5 := HXv.out.lt
            clear hcc hbl
            refine wp_region_held_drew (S := fun W => W.cell? ⟨bn, on, none⟩ = some (.int .i64 k0) ∧ W.rangeAt b10 0 [.int .i64 y.view, .string ⟨y.value.toArray⟩, .slice y.cert.a y.cert.l.length y.cert.c]) (by kernel_rfl) (by rw [hv]; exact hC) (fun hHeld => ?_)
            rw [hv] at hHeld ⊢
            clear hv
            refine wpAnyH_take (i := 0) (oi := _) (v := ?_) rfl (by kernel_rfl) (by kernel_rfl) (by kernel_rfl) (fun _ _ _ h => h) (Or.inl ⟨by rfl, ?_⟩) (by assumption) ?_
            rotate_left
            · intro W hSw; (try dsimp only at hSw); go_simp; try with_reducible rfl
            try simp only [Act.put, List.setIfInBounds_toArray, List.set_cons_zero, List.set_cons_succ, List.getElem_toArray, List.getElem_cons_zero]
            refine wpAnyH_take (i := 2) (oi := _) (v := ?_) rfl (by kernel_rfl) (by kernel_rfl) (by kernel_rfl) (fun _ _ _ h => h) (Or.inl ⟨by rfl, ?_⟩) (by assumption) ?_
            rotate_left
            · intro W hSw; (try dsimp only at hSw); go_simp; try with_reducible rfl
            try simp only [Act.put, List.setIfInBounds_toArray, List.set_cons_zero, List.set_cons_succ, List.getElem_toArray, List.getElem_cons_succ, List.getElem_cons_zero]
            refine wpAnyH_take (i := 3) (oi := _) (v := ?_) rfl (by kernel_rfl) (by kernel_rfl) (by kernel_rfl) (fun _ _ _ h => h) (Or.inl ⟨by rfl, ?_⟩) (by assumption) ?_
            rotate_left
            · intro W hSw; (try dsimp only at hSw); go_simp; try with_reducible rfl
            try simp only [Act.put, List.setIfInBounds_toArray, List.set_cons_zero, List.set_cons_succ, List.getElem_toArray, List.getElem_cons_succ, List.getElem_cons_zero]
            refine wpAnyH_take (i := 4) (oi := _) (v := ?_) rfl (by kernel_rfl) (by kernel_rfl) (by kernel_rfl) (fun _ _ _ h => h) (Or.inl ⟨by rfl, ?_⟩) (by assumption) ?_
            rotate_left
            · intro W hSw; (try dsimp only at hSw); go_simp; try with_reducible rfl
            try simp only [Act.put, List.setIfInBounds_toArray, List.set_cons_zero, List.set_cons_succ, List.getElem_toArray, List.getElem_cons_succ, List.getElem_cons_zero]
            refine wpAnyH_take (i := 5) (oi := _) rfl (by kernel_rfl) (by kernel_rfl) (by kernel_rfl) (fun _ _ _ h => h) (yieldsIf_load_mid (by rfl) 78 _ (by rfl) _ 0 (by rfl) [.int .i64 y.view, .string ⟨y.value.toArray⟩, .slice y.cert.a y.cert.l.length y.cert.c] _ (fun _ h => h.2) Tryz.underlying78 rfl (infoDen y)) (by assumption) ?_
            try simp only [Act.put, List.setIfInBounds_toArray, List.set_cons_zero, List.set_cons_succ, List.getElem_toArray, List.getElem_cons_succ, List.getElem_cons_zero]
            refine wpAnyH_take (i := 6) (oi := _) (v := ?_) rfl (by kernel_rfl) (by kernel_rfl) (by kernel_rfl) (fun _ _ _ h => h) (Or.inl ⟨by rfl, ?_⟩) (by assumption) ?_
            rotate_left
            · intro W hSw; (try dsimp only at hSw); go_simp; try with_reducible rfl
            try simp only [Act.put, List.setIfInBounds_toArray, List.set_cons_zero, List.set_cons_succ, List.getElem_toArray, List.getElem_cons_succ, List.getElem_cons_zero]
            refine wpAnyH_ready (rs := [1, 7]) (by kernel_rfl) (by simp) ?_
            refine AllReadyH.cons (o := _) rfl (fun K hK => ?_) ?_
            · go_simp
              refine hK.out _ _ hC (fun hHeld => ?_)
              clear hK K
              try simp only [Act.put, List.setIfInBounds_toArray, List.set_cons_zero, List.set_cons_succ, List.getElem_toArray, List.getElem_cons_succ, List.getElem_cons_zero]
              refine wpAnyH_ready (rs := [7]) (by kernel_rfl) (by simp) ?_
              refine AllReadyH.cons (o := _) rfl (fun K hK => ?_) AllReadyH.nil
              go_simp
              have HBa : Hid (Below wr.heap.size wr (v.alloc (.cells #[.int .i64 k0, .int .i64 y.view, .string ⟨y.value.toArray⟩, .slice y.cert.a y.cert.l.length y.cert.c] 127))) := Lib.hid (bon HBr.out (below_new _ _))
              have H10 := Lib.hid (H10.out.below (below_new v (.cells #[.int .i64 k0, .int .i64 y.view, .string ⟨y.value.toArray⟩, .slice y.cert.a y.cert.l.length y.cert.c] 127)))
              have HN9 := Lib.hid (HN9.out.below (below_new v (.cells #[.int .i64 k0, .int .i64 y.view, .string ⟨y.value.toArray⟩, .slice y.cert.a y.cert.l.length y.cert.c] 127)))
              have HY := Lib.hid (HY.out.on (keeps_below _ (below_new v (.cells #[.int .i64 k0, .int .i64 y.view, .string ⟨y.value.toArray⟩, .slice y.cert.a y.cert.l.length y.cert.c] 127))))
              have hnew := cell_new v [.int .i64 k0, .int .i64 y.view, .string ⟨y.value.toArray⟩, .slice y.cert.a y.cert.l.length y.cert.c] 127 _ rfl
              have hza : (v.alloc (.cells #[.int .i64 k0, .int .i64 y.view, .string ⟨y.value.toArray⟩, .slice y.cert.a y.cert.l.length y.cert.c] 127)).heap.size = v.heap.size + 1 := by simp
              generalize v.alloc (.cells #[.int .i64 k0, .int .i64 y.view, .string ⟨y.value.toArray⟩, .slice y.cert.a y.cert.l.length y.cert.c] 127) = va at HBa H10 HN9 HY hnew hza ⊢
              have c4a := (HX.out.below HBa.out).cells 4 _ rfl
              have l5a := (HX.out.below HBa.out).lt
              have hCa : va.cell? ⟨bn, on, none⟩ = some (.int .i64 k0) ∧ va.rangeAt b10 0 [.int .i64 y.view, .string ⟨y.value.toArray⟩, .slice y.cert.a y.cert.l.length y.cert.c] := ⟨HNC.out va HN9.out, H10.out.range⟩
              refine hK.out _ _ hCa (fun hHeld => ?_)
              clear hK K
              try simp only [Act.put, List.setIfInBounds_toArray, List.set_cons_zero, List.set_cons_succ, List.getElem_toArray, List.getElem_cons_succ, List.getElem_cons_zero]
              refine wpAnyH_ready (rs := [8]) (by kernel_rfl) (by simp) ?_
              refine AllReadyH.cons (o := _) rfl (fun K hK => ?_) AllReadyH.nil
              have HOa := Lib.hid (ownsRow_below HCh.out.own HBa.out)
              have hB9 : B ≤ wr.heap.size := HCh.out.size
              refine step_append_lies _ (by rfl) _ _ _ (by rfl) B 127 i0 _ 4 56 Tryz.underlying32 HI.out HZ0.out HZ1.out HZ2.out rfl (by decide) _ _ _ (by rfl) HOa.out _ 1 1 [.int .i64 k0, .int .i64 y.view, .string ⟨y.value.toArray⟩, .slice y.cert.a y.cert.l.length y.cert.c] (by rfl) (by rfl) hnew (by simp [Value.oneCell']) Nat.one_pos (by simp [maxLen]; omega) (by omega) (by have := HBa.out.size; have := HCh.out.size; omega) va.heap.size rfl ?_
              intro g cap w2 hown hgr hat hlt
              have hat2 : Value.ownBlock (.slice (some ⟨g, 0, none⟩) (j + 1) cap) = o.ownBlock ∨ Value.ownBlock (.slice (some ⟨g, 0, none⟩) (j + 1) cap) = some va.heap.size := by
                rcases hat with e | e
                · exact .inl (by rw [e]; rfl)
                · exact .inr (by rw [e]; rfl)
              have hq9 : ∀ q, o.ownBlock = some q → q < wr.heap.size := fun q hq => (HCh.out.own.lt q hq).2
              have HN9 := Lib.hid (HN9.out.rowO hgr (fun q hq => Or.inl (hq9 q hq)))
              have H10 : Hid (Vr w2 b10 (deC y)) := Lib.hid (by
                cases ho : o.ownBlock with
                | none => rw [ho] at hgr; exact H10.out.below ⟨hgr.os, hgr.tape, hgr.output, hgr.size, fun i hi => hgr.block i hi (by simp)⟩
                | some q => rw [ho] at hgr; exact H10.out.grown hgr (by have := hq9 q ho; omega))
              have HX2 := Lib.hid (HCh.out.vr HBa.out hgr HX.out hB5)
              have c4b := HX2.out.cells 4 _ rfl
              have f4b := HX2.out.free 4 (by simp)
              have l5b := HX2.out.lt
              have HCh2 := Lib.hid (HCh.out.step (x := ⟨k0, y⟩) hB5 hB3 HBa.out hlt1 (by rw [HWh.out]) hu10 (HY.out.imp (fun W hW => ⟨HK64.out, hW⟩)) hown hgr hat2)
              have HB2 := Lib.hid (HCh.out.low (v' := .slice (some ⟨g, 0, none⟩) (j + 1) cap) hB5 (by omega) HB.out HBa.out hgr)
              have HR2' := Lib.hid ((HCh.out.vr HBa.out hgr HR.out (by omega)).grown (grown_set w2 ⟨b5, 4, none⟩ (.slice (some ⟨g, 0, none⟩) (j + 1) cap)) (by show w.heap.size ≠ b5; omega))
              have HV2' := Lib.hid ((HCh.out.vr HBa.out hgr HV.out (by omega)).grown (grown_set w2 ⟨b5, 4, none⟩ (.slice (some ⟨g, 0, none⟩) (j + 1) cap)) (by show w.heap.size + 1 ≠ b5; omega))
              have HQ2' := Lib.hid ((HCh.out.vr HBa.out hgr HQ.out (by omega)).grown (grown_set w2 ⟨b5, 4, none⟩ (.slice (some ⟨g, 0, none⟩) (j + 1) cap)) (by show w.heap.size + 2 ≠ b5; omega))
              have HX3 := Lib.hid (HX2.out.set 4 (.slice (some ⟨g, 0, none⟩) (j + 1) cap))
              have hC2 : w2.cell? ⟨bn, on, none⟩ = some (.int .i64 k0) ∧ w2.rangeAt b10 0 [.int .i64 y.view, .string ⟨y.value.toArray⟩, .slice y.cert.a y.cert.l.length y.cert.c] := ⟨HNC.out w2 HN9.out, H10.out.range⟩
              have HN9 := Lib.hid (HN9.out.row (grown_set w2 ⟨b5, 4, none⟩ (.slice (some ⟨g, 0, none⟩) (j + 1) cap)) (Or.inl (by show b5 < wr.heap.size; omega)))
              have hC3 : (w2.setCell ⟨b5, 4, none⟩ (.slice (some ⟨g, 0, none⟩) (j + 1) cap)).cell? ⟨bn, on, none⟩ = some (.int .i64 k0) ∧ (w2.setCell ⟨b5, 4, none⟩ (.slice (some ⟨g, 0, none⟩) (j + 1) cap)).rangeAt b10 0 [.int .i64 y.view, .string ⟨y.value.toArray⟩, .slice y.cert.a y.cert.l.length y.cert.c] := ⟨HNC.out _ HN9.out, (H10.out.grown (grown_set w2 ⟨b5, 4, none⟩ (.slice (some ⟨g, 0, none⟩) (j + 1) cap)) (by show b10 ≠ b5; omega)).range⟩
              clear hown hgr hat hat2
              refine hK.out _ _ hC2 (fun hHeld => ?_)
              clear hK K
              try simp only [Act.put, List.setIfInBounds_toArray, List.set_cons_zero, List.set_cons_succ, List.getElem_toArray, List.getElem_cons_succ, List.getElem_cons_zero]
              refine wpAnyH_take (i := 9) (oi := _) (v := ?_) rfl (by kernel_rfl) (by kernel_rfl) (by kernel_rfl) (fun _ _ _ h => h) (Or.inl ⟨by rfl, ?_⟩) (by assumption) ?_
              rotate_left
              · intro W hSw; (try dsimp only at hSw); go_simp; try with_reducible rfl
              try simp only [Act.put, List.setIfInBounds_toArray, List.set_cons_zero, List.set_cons_succ, List.getElem_toArray, List.getElem_cons_succ, List.getElem_cons_zero]
              refine wpAnyH_ready (rs := [10]) (by kernel_rfl) (by simp) ?_
              refine AllReadyH.cons (o := _) rfl (fun K hK => ?_) AllReadyH.nil
              go_simp
              refine hK.out _ _ hC3 (fun hHeld => ?_)
              clear hK K
              try simp only [Act.put, List.setIfInBounds_toArray, List.set_cons_zero, List.set_cons_succ, List.getElem_toArray, List.getElem_cons_succ, List.getElem_cons_zero]
              refine wpAnyH_done (by kernel_rfl) ?_ _
              refine NoPanic.normal ?_
              clear hC hC2 hC3 c4 l5 hHeld
              go_wp2_with fail
              go_roundw
              case rel => exact ⟨j + 1, _, _, _, by go_num, by omega, HCh2.out, HR2'.out, HX3.out, HV2'.out, HQ2'.out, HB2.out⟩
              case measure => simp [intOf]; omega
            refine AllReadyH.cons (o := _) rfl (fun K hK => ?_) AllReadyH.nil
            go_simp
            have HBa : Hid (Below wr.heap.size wr (v.alloc (.cells #[.int .i64 k0, .int .i64 y.view, .string ⟨y.value.toArray⟩, .slice y.cert.a y.cert.l.length y.cert.c] 127))) := Lib.hid (bon HBr.out (below_new _ _))
            have H10 := Lib.hid (H10.out.below (below_new v (.cells #[.int .i64 k0, .int .i64 y.view, .string ⟨y.value.toArray⟩, .slice y.cert.a y.cert.l.length y.cert.c] 127)))
            have HN9 := Lib.hid (HN9.out.below (below_new v (.cells #[.int .i64 k0, .int .i64 y.view, .string ⟨y.value.toArray⟩, .slice y.cert.a y.cert.l.length y.cert.c] 127)))
            have HY := Lib.hid (HY.out.on (keeps_below _ (below_new v (.cells #[.int .i64 k0, .int .i64 y.view, .string ⟨y.value.toArray⟩, .slice y.cert.a y.cert.l.length y.cert.c] 127))))
            have hnew := cell_new v [.int .i64 k0, .int .i64 y.view, .string ⟨y.value.toArray⟩, .slice y.cert.a y.cert.l.length y.cert.c] 127 _ rfl
            have hza : (v.alloc (.cells #[.int .i64 k0, .int .i64 y.view, .string ⟨y.value.toArray⟩, .slice y.cert.a y.cert.l.length y.cert.c] 127)).heap.size = v.heap.size + 1 := by simp
            generalize v.alloc (.cells #[.int .i64 k0, .int .i64 y.view, .string ⟨y.value.toArray⟩, .slice y.cert.a y.cert.l.length y.cert.c] 127) = va at HBa H10 HN9 HY hnew hza ⊢
            have c4a := (HX.out.below HBa.out).cells 4 _ rfl
            have l5a := (HX.out.below HBa.out).lt
            have hCa : va.cell? ⟨bn, on, none⟩ = some (.int .i64 k0) ∧ va.rangeAt b10 0 [.int .i64 y.view, .string ⟨y.value.toArray⟩, .slice y.cert.a y.cert.l.length y.cert.c] := ⟨HNC.out va HN9.out, H10.out.range⟩
            refine hK.out _ _ hCa (fun hHeld => ?_)
            clear hK K
            try simp only [Act.put, List.setIfInBounds_toArray, List.set_cons_zero, List.set_cons_succ, List.getElem_toArray, List.getElem_cons_succ, List.getElem_cons_zero]
            refine wpAnyH_ready (rs := [1]) (by kernel_rfl) (by simp) ?_
            refine AllReadyH.cons (o := _) rfl (fun K hK => ?_) AllReadyH.nil
            go_simp
            refine hK.out _ _ hCa (fun hHeld => ?_)
            clear hK K
            try simp only [Act.put, List.setIfInBounds_toArray, List.set_cons_zero, List.set_cons_succ, List.getElem_toArray, List.getElem_cons_succ, List.getElem_cons_zero]
            refine wpAnyH_ready (rs := [8]) (by kernel_rfl) (by simp) ?_
            refine AllReadyH.cons (o := _) rfl (fun K hK => ?_) AllReadyH.nil
            have HOa := Lib.hid (ownsRow_below HCh.out.own HBa.out)
            have hB9 : B ≤ wr.heap.size := HCh.out.size
            refine step_append_lies _ (by rfl) _ _ _ (by rfl) B 127 i0 _ 4 56 Tryz.underlying32 HI.out HZ0.out HZ1.out HZ2.out rfl (by decide) _ _ _ (by rfl) HOa.out _ 1 1 [.int .i64 k0, .int .i64 y.view, .string ⟨y.value.toArray⟩, .slice y.cert.a y.cert.l.length y.cert.c] (by rfl) (by rfl) hnew (by simp [Value.oneCell']) Nat.one_pos (by simp [maxLen]; omega) (by omega) (by have := HBa.out.size; have := HCh.out.size; omega) va.heap.size rfl ?_
            intro g cap w2 hown hgr hat hlt
            have hat2 : Value.ownBlock (.slice (some ⟨g, 0, none⟩) (j + 1) cap) = o.ownBlock ∨ Value.ownBlock (.slice (some ⟨g, 0, none⟩) (j + 1) cap) = some va.heap.size := by
              rcases hat with e | e
              · exact .inl (by rw [e]; rfl)
              · exact .inr (by rw [e]; rfl)
            have hq9 : ∀ q, o.ownBlock = some q → q < wr.heap.size := fun q hq => (HCh.out.own.lt q hq).2
            have HN9 := Lib.hid (HN9.out.rowO hgr (fun q hq => Or.inl (hq9 q hq)))
            have H10 : Hid (Vr w2 b10 (deC y)) := Lib.hid (by
              cases ho : o.ownBlock with
              | none => rw [ho] at hgr; exact H10.out.below ⟨hgr.os, hgr.tape, hgr.output, hgr.size, fun i hi => hgr.block i hi (by simp)⟩
              | some q => rw [ho] at hgr; exact H10.out.grown hgr (by have := hq9 q ho; omega))
            have HX2 := Lib.hid (HCh.out.vr HBa.out hgr HX.out hB5)
            have c4b := HX2.out.cells 4 _ rfl
            have f4b := HX2.out.free 4 (by simp)
            have l5b := HX2.out.lt
            have HCh2 := Lib.hid (HCh.out.step (x := ⟨k0, y⟩) hB5 hB3 HBa.out hlt1 (by rw [HWh.out]) hu10 (HY.out.imp (fun W hW => ⟨HK64.out, hW⟩)) hown hgr hat2)
            have HB2 := Lib.hid (HCh.out.low (v' := .slice (some ⟨g, 0, none⟩) (j + 1) cap) hB5 (by omega) HB.out HBa.out hgr)
            have HR2' := Lib.hid ((HCh.out.vr HBa.out hgr HR.out (by omega)).grown (grown_set w2 ⟨b5, 4, none⟩ (.slice (some ⟨g, 0, none⟩) (j + 1) cap)) (by show w.heap.size ≠ b5; omega))
            have HV2' := Lib.hid ((HCh.out.vr HBa.out hgr HV.out (by omega)).grown (grown_set w2 ⟨b5, 4, none⟩ (.slice (some ⟨g, 0, none⟩) (j + 1) cap)) (by show w.heap.size + 1 ≠ b5; omega))
            have HQ2' := Lib.hid ((HCh.out.vr HBa.out hgr HQ.out (by omega)).grown (grown_set w2 ⟨b5, 4, none⟩ (.slice (some ⟨g, 0, none⟩) (j + 1) cap)) (by show w.heap.size + 2 ≠ b5; omega))
            have HX3 := Lib.hid (HX2.out.set 4 (.slice (some ⟨g, 0, none⟩) (j + 1) cap))
            have hC2 : w2.cell? ⟨bn, on, none⟩ = some (.int .i64 k0) ∧ w2.rangeAt b10 0 [.int .i64 y.view, .string ⟨y.value.toArray⟩, .slice y.cert.a y.cert.l.length y.cert.c] := ⟨HNC.out w2 HN9.out, H10.out.range⟩
            have HN9 := Lib.hid (HN9.out.row (grown_set w2 ⟨b5, 4, none⟩ (.slice (some ⟨g, 0, none⟩) (j + 1) cap)) (Or.inl (by show b5 < wr.heap.size; omega)))
            have hC3 : (w2.setCell ⟨b5, 4, none⟩ (.slice (some ⟨g, 0, none⟩) (j + 1) cap)).cell? ⟨bn, on, none⟩ = some (.int .i64 k0) ∧ (w2.setCell ⟨b5, 4, none⟩ (.slice (some ⟨g, 0, none⟩) (j + 1) cap)).rangeAt b10 0 [.int .i64 y.view, .string ⟨y.value.toArray⟩, .slice y.cert.a y.cert.l.length y.cert.c] := ⟨HNC.out _ HN9.out, (H10.out.grown (grown_set w2 ⟨b5, 4, none⟩ (.slice (some ⟨g, 0, none⟩) (j + 1) cap)) (by show b10 ≠ b5; omega)).range⟩
            clear hown hgr hat hat2
            refine hK.out _ _ hC2 (fun hHeld => ?_)
            clear hK K
            try simp only [Act.put, List.setIfInBounds_toArray, List.set_cons_zero, List.set_cons_succ, List.getElem_toArray, List.getElem_cons_succ, List.getElem_cons_zero]
            refine wpAnyH_take (i := 9) (oi := _) (v := ?_) rfl (by kernel_rfl) (by kernel_rfl) (by kernel_rfl) (fun _ _ _ h => h) (Or.inl ⟨by rfl, ?_⟩) (by assumption) ?_
            rotate_left
            · intro W hSw; (try dsimp only at hSw); go_simp; try with_reducible rfl
            try simp only [Act.put, List.setIfInBounds_toArray, List.set_cons_zero, List.set_cons_succ, List.getElem_toArray, List.getElem_cons_succ, List.getElem_cons_zero]
            refine wpAnyH_ready (rs := [10]) (by kernel_rfl) (by simp) ?_
            refine AllReadyH.cons (o := _) rfl (fun K hK => ?_) AllReadyH.nil
            go_simp
            refine hK.out _ _ hC3 (fun hHeld => ?_)
            clear hK K
            try simp only [Act.put, List.setIfInBounds_toArray, List.set_cons_zero, List.set_cons_succ, List.getElem_toArray, List.getElem_cons_succ, List.getElem_cons_zero]
            refine wpAnyH_done (by kernel_rfl) ?_ _
            refine NoPanic.normal ?_
            clear hC hC2 hC3 c4 l5 hHeld
            go_wp2_with fail
            go_roundw
            case rel => exact ⟨j + 1, _, _, _, by go_num, by omega, HCh2.out, HR2'.out, HX3.out, HV2'.out, HQ2'.out, HB2.out⟩
            case measure => simp [intOf]; omega
      refine AllReadyH.cons (o := _) rfl (fun K hK => ?_) AllReadyH.nil
      go_simp
      have H9 : Hid (Vr (v.alloc (.cells #[.string ⟨#[]⟩, .bool false] 63)) v.heap.size [.string ⟨#[]⟩, .bool false]) := Lib.hid (Vr.new _ _ _)
      have hb9 : wr.heap.size ≤ v.heap.size := HBr.out.size
      have HBr := Lib.hid (bon HBr.out (below_new v (.cells #[.string ⟨#[]⟩, .bool false] 63)))
      generalize v.alloc (.cells #[.string ⟨#[]⟩, .bool false] 63) = v2 at H9 HBr ⊢
      generalize hb9e : v.heap.size = b9 at H9 hb9 ⊢
      clear hb9e
      have hC2 := HCC.out v2 HBr.out
      refine hK.out _ _ hC2 (fun hHeld => ?_)
      clear hK K
      try simp only [Act.put, List.setIfInBounds_toArray, List.set_cons_zero, List.set_cons_succ, List.getElem_toArray, List.getElem_cons_succ, List.getElem_cons_zero]
      refine wpAnyH_ready (rs := [7]) (by kernel_rfl) (by simp) ?_
      refine AllReadyH.cons (o := _) rfl (fun K hK => ?_) AllReadyH.nil
      have hz2 : wr.heap.size ≤ v2.heap.size := HBr.out.size
      go_simp
      go_at_call 36
      refine (refInts1_any ⟨t, true⟩ v2 htl).mono ?_
      rintro e w9 ⟨A9, c9, he, hst, hb⟩
      rw [HTi.out] at he hst
      obtain rfl : e = .returned (.tuple #[.slice A9 1 c9, .agg (rcC q1).toArray]) := he
      have HN9 := Lib.hid (held_new (a := wr.heap.size) (b4 := b9) hst hz2 (Or.inl H9.out.lt))
      have HBr := Lib.hid (bon HBr.out hb)
      have H9 := Lib.hid (H9.out.below hb)
      clear hst hb hz2
      have hC3 := HCC.out w9 HBr.out
      go_wp2_with fail
      refine hK.out _ _ hC3 (fun hHeld => ?_)
      clear hK K
      try simp only [Act.put, List.setIfInBounds_toArray, List.set_cons_zero, List.set_cons_succ, List.getElem_toArray, List.getElem_cons_succ, List.getElem_cons_zero]
      refine wpAnyH_take (i := 8) (oi := _) (v := ?_) rfl (by kernel_rfl) (by kernel_rfl) (by kernel_rfl) (fun _ _ _ h => h) (Or.inl ⟨by rfl, ?_⟩) (by assumption) ?_
      rotate_left
      · intro W hSw; (try dsimp only at hSw); go_simp; try with_reducible rfl
      try simp only [Act.put, List.setIfInBounds_toArray, List.set_cons_zero, List.set_cons_succ, List.getElem_toArray, List.getElem_cons_succ, List.getElem_cons_zero]
      refine wpAnyH_take (i := 9) (oi := _) (v := ?_) rfl (by kernel_rfl) (by kernel_rfl) (by kernel_rfl) (fun _ _ _ h => h) (Or.inl ⟨by rfl, ?_⟩) (by assumption) ?_
      rotate_left
      · intro W hSw; (try dsimp only at hSw); go_simp; try with_reducible rfl
      try simp only [Act.put, List.setIfInBounds_toArray, List.set_cons_zero, List.set_cons_succ, List.getElem_toArray, List.getElem_cons_succ, List.getElem_cons_zero]
      refine wpAnyH_take (i := 10) (oi := _) (v := ?_) rfl (by kernel_rfl) (by kernel_rfl) (by kernel_rfl) (fun _ _ _ h => h) (Or.inl ⟨by rfl, ?_⟩) (by assumption) ?_
      rotate_left
      · intro W hSw; (try dsimp only at hSw); go_simp; try with_reducible rfl
      try simp only [Act.put, List.setIfInBounds_toArray, List.set_cons_zero, List.set_cons_succ, List.getElem_toArray, List.getElem_cons_succ, List.getElem_cons_zero]
      refine wpAnyH_take (i := 12) (oi := _) (v := ?_) rfl (by kernel_rfl) (by kernel_rfl) (by kernel_rfl) (fun _ _ _ h => h) (Or.inl ⟨by rfl, ?_⟩) (by assumption) ?_
      rotate_left
      · intro W hSw; (try dsimp only at hSw); go_simp; try with_reducible rfl
      try simp only [Act.put, List.setIfInBounds_toArray, List.set_cons_zero, List.set_cons_succ, List.getElem_toArray, List.getElem_cons_succ, List.getElem_cons_zero]
      refine wpAnyH_ready (rs := [13]) (by kernel_rfl) (by simp) ?_
      refine AllReadyH.cons (o := _) rfl (fun K hK => ?_) AllReadyH.nil
      rw [if_pos (by rfl)]
      refine wp_store_mid 63 _ _ rfl b9 0 (rcC q1).toArray rfl rfl (H9.out.there (n := 2) rfl) (infoRc q1) (rcC_one q1) ?_
      try simp only []
      have HBr := Lib.hid (below_gr HBr.out (grown_vs (b := b9) (rcC q1)) hb9)
      have HN9 := Lib.hid (HN9.out.row (grown_vs (b := b9) (rcC q1)) (Or.inr rfl))
      have H9 := Lib.hid (H9.out.sets (rcC q1) rfl)
      generalize w9.setCells b9 0 (rcC q1) = w10 at HBr HN9 H9 ⊢
      have hC4 := HCC.out w10 HBr.out
      refine hK.out _ _ hC4 (fun hHeld => ?_)
      clear hK K
      try simp only [Act.put, List.getElem_toArray, List.getElem_cons_succ, List.getElem_cons_zero]
      refine wpAnyH_done (by kernel_rfl) ?_ _
      refine NoPanic.normal ?_
      clear hC hC2 hC3 hC4 hHeld HCC a0 cR lR hsz
      have hb9l := H9.out.lt
      have hw10 := HBr.out.size
      go_wp2_with (refine wpList_load_mid rfl 63 _ rfl b9 0 rfl (rcC q1) _ H9.out.range Tryz.underlying63 rfl (infoRc q1) ?_)
      refine (refReadEntry_any q1 w10 HLq.out).mono ?_
      rintro e w11 ⟨y, he, hy, hst, hb⟩
      rw [HTy.out] at he hy
      obtain rfl : e = .returned (.tuple #[.agg #[.int .i64 y.view, .string ⟨y.value.toArray⟩, .slice y.cert.a y.cert.l.length y.cert.c], .agg (rcC q2).toArray]) := he
      have H9 := Lib.hid ((H9.out.below hb).below (below_new w11 (.cells (deC y).toArray 78)))
      have HBr := Lib.hid (bon (bon HBr.out hb) (below_new w11 (.cells (deC y).toArray 78)))
      have HN9 := Lib.hid ((HN9.out.below hb).below (below_new w11 (.cells (deC y).toArray 78)))
      have HY := Lib.hid (hst.on (keeps_below _ (below_new w11 (.cells (deC y).toArray 78))))
      have H10 := Lib.hid (Vr.new w11 (deC y) 78)
      have HYe := Lib.hid hy
      have hu10 : wr.heap.size ≤ w10.heap.size := hw10
      have h911 : b9 < w11.heap.size := Nat.lt_of_lt_of_le hb9l hb.size
      clear hst hb hy
      have HBr := Lib.hid (below_gr HBr.out (grown_vs (b := b9) (rcC q2)) hb9)
      have HN9 := Lib.hid (HN9.out.row (grown_vs (b := b9) (rcC q2)) (Or.inr rfl))
      have HY := Lib.hid (HY.out.on (keeps_grown (grown_vs (b := b9) (rcC q2)) hb9l))
      have H10 := Lib.hid (H10.out.grown (grown_vs (b := b9) (rcC q2)) (by omega))
      go_upto_region 12 with (refine wpList_store_mid rfl 63 _ _ rfl b9 0 (rcC q2).toArray rfl rfl ?_ (infoRc q2) (rcC_one q2) ?_; · exact H9.out.there (n := 2) rfl)
      try simp only [List.toList_toArray]
      have H9 := Lib.hid (H9.out.sets (rcC q2) rfl)
      change Code.wp _ _ _ _ ((w11.alloc (.cells (deC y).toArray 78)).setCells b9 0 (rcC q2))
      generalize (w11.alloc (.cells (deC y).toArray 78)).setCells b9 0 (rcC q2) = w12 at HBr HN9 HY H10 H9 ⊢
      generalize hb10 : w11.heap.size = b10 at H10 h911 ⊢
      have hb10w : wr.heap.size < b10 := by omega
      clear hb10
      have c90 := H9.out.cells 0 _ rfl
      have c91 := H9.out.cells 1 _ rfl
      have l9 := H9.out.lt
      obtain ⟨s2, k2⟩ := q2
      simp only at c90 c91
      cases k2 with
      | false =>
        have HWh : Hid (whole rdHo t = none) := Lib.hid (by rw [ho_whole, HTq.out]; rfl)
        have HR' := Lib.hid (HR.out.below HBr.out)
        have HV' := Lib.hid (HV.out.below HBr.out)
        have HQ' := Lib.hid (HQ.out.below HBr.out)
        have HB' := Lib.hid (bon HB.out HBr.out)
        have HQ1 := Lib.hid (HQ'.out.grown (grown_vs (b := w.heap.size + 1) (snC ⟨0, [], Sl.nil, Sl.nil, Sl.nil⟩)) (by omega))
        have HV1 := Lib.hid ((HV'.out.sets (snC ⟨0, [], Sl.nil, Sl.nil, Sl.nil⟩) rfl).grown (grown_vs (b := w.heap.size + 2) (rcC Rc.fail)) (by omega))
        have HQ2 := Lib.hid (HQ1.out.sets (rcC Rc.fail) rfl)
        have HBe := Lib.hid (below_gr (below_gr HB'.out (grown_vs (b := w.heap.size + 1) (snC ⟨0, [], Sl.nil, Sl.nil, Sl.nil⟩)) (by omega)) (grown_vs (b := w.heap.size + 2) (rcC Rc.fail)) (by omega))
        have HS : Hid (rkSn r = (⟨0, [], Sl.nil, Sl.nil, Sl.nil⟩, Rc.fail)) := Lib.hid (by rw [HSpec.out, HCh.out.all, HDr.out, many, HWh.out])
        go_wp2_with (first
          | (refine wpList_store_mid rfl 34 _ _ rfl (w.heap.size + 1) 0 (snC ⟨0, [], Sl.nil, Sl.nil, Sl.nil⟩).toArray rfl rfl ?_ (infoSnn ⟨0, [], Sl.nil, Sl.nil, Sl.nil⟩) (snC_one' ⟨0, [], Sl.nil, Sl.nil, Sl.nil⟩) ?_; · exact HV'.out.there rfl)
          | (refine wpList_store_mid rfl 63 _ _ rfl (w.heap.size + 2) 0 (rcC Rc.fail).toArray rfl rfl ?_ (infoRc Rc.fail) (rcC_one Rc.fail) ?_; · exact HQ1.out.there (n := 2) rfl))
        refine bodyPost_ret (v := .tuple #[.agg (snC ⟨0, [], Sl.nil, Sl.nil, Sl.nil⟩).toArray, .agg (rcC Rc.fail).toArray]) ?_ rfl (ret_rx (x := ⟨0, [], Sl.nil, Sl.nil, Sl.nil⟩) (r' := (⟨0, [], Sl.nil, Sl.nil, Sl.nil⟩, Rc.fail)) HS.out rfl rfl (fun W _ => ⟨⟨by decide, by decide⟩, Rd.nil _ _ _, ⟨Rd.nil _ _ _, by simp [Sl.nil]⟩, Rd.nil _ _ _, by simp [Sl.nil]⟩) HBe.out)
        exact results_mid2 Tryz.results41 _ _ (w.heap.size + 1) (w.heap.size + 2) (snC ⟨0, [], Sl.nil, Sl.nil, Sl.nil⟩) (rcC Rc.fail) _ _ rfl rfl HV1.out.range HQ2.out.range Tryz.underlying34 rfl (infoSnn ⟨0, [], Sl.nil, Sl.nil, Sl.nil⟩) Tryz.underlying63 rfl (infoRc Rc.fail)
      | true =>
        cases s2 with
        | cons q0 qs =>
          have HWh : Hid (whole rdHo t = none) := Lib.hid (by rw [ho_whole, HTq.out]; rfl)
          have HR' := Lib.hid (HR.out.below HBr.out)
          have HV' := Lib.hid (HV.out.below HBr.out)
          have HQ' := Lib.hid (HQ.out.below HBr.out)
          have HB' := Lib.hid (bon HB.out HBr.out)
          have HQ1 := Lib.hid (HQ'.out.grown (grown_vs (b := w.heap.size + 1) (snC ⟨0, [], Sl.nil, Sl.nil, Sl.nil⟩)) (by omega))
          have HV1 := Lib.hid ((HV'.out.sets (snC ⟨0, [], Sl.nil, Sl.nil, Sl.nil⟩) rfl).grown (grown_vs (b := w.heap.size + 2) (rcC Rc.fail)) (by omega))
          have HQ2 := Lib.hid (HQ1.out.sets (rcC Rc.fail) rfl)
          have HBe := Lib.hid (below_gr (below_gr HB'.out (grown_vs (b := w.heap.size + 1) (snC ⟨0, [], Sl.nil, Sl.nil, Sl.nil⟩)) (by omega)) (grown_vs (b := w.heap.size + 2) (rcC Rc.fail)) (by omega))
          have HS : Hid (rkSn r = (⟨0, [], Sl.nil, Sl.nil, Sl.nil⟩, Rc.fail)) := Lib.hid (by rw [HSpec.out, HCh.out.all, HDr.out, many, HWh.out])
          go_wp2_with (first
            | (refine wpList_store_mid rfl 34 _ _ rfl (w.heap.size + 1) 0 (snC ⟨0, [], Sl.nil, Sl.nil, Sl.nil⟩).toArray rfl rfl ?_ (infoSnn ⟨0, [], Sl.nil, Sl.nil, Sl.nil⟩) (snC_one' ⟨0, [], Sl.nil, Sl.nil, Sl.nil⟩) ?_; · exact HV'.out.there rfl)
            | (refine wpList_store_mid rfl 63 _ _ rfl (w.heap.size + 2) 0 (rcC Rc.fail).toArray rfl rfl ?_ (infoRc Rc.fail) (rcC_one Rc.fail) ?_; · exact HQ1.out.there (n := 2) rfl))
          refine bodyPost_ret (v := .tuple #[.agg (snC ⟨0, [], Sl.nil, Sl.nil, Sl.nil⟩).toArray, .agg (rcC Rc.fail).toArray]) ?_ rfl (ret_rx (x := ⟨0, [], Sl.nil, Sl.nil, Sl.nil⟩) (r' := (⟨0, [], Sl.nil, Sl.nil, Sl.nil⟩, Rc.fail)) HS.out rfl rfl (fun W _ => ⟨⟨by decide, by decide⟩, Rd.nil _ _ _, ⟨Rd.nil _ _ _, by simp [Sl.nil]⟩, Rd.nil _ _ _, by simp [Sl.nil]⟩) HBe.out)
          exact results_mid2 Tryz.results41 _ _ (w.heap.size + 1) (w.heap.size + 2) (snC ⟨0, [], Sl.nil, Sl.nil, Sl.nil⟩) (rcC Rc.fail) _ _ rfl rfl HV1.out.range HQ2.out.range Tryz.underlying34 rfl (infoSnn ⟨0, [], Sl.nil, Sl.nil, Sl.nil⟩) Tryz.underlying63 rfl (infoRc Rc.fail)
        | nil =>
          have HWh : Hid (whole rdHo t4[j] = some (Ho.er ⟨k0, y⟩)) := Lib.hid (by rw [← HTt.out, ho_whole, HTq.out]; show some (Ho.mk k0 d) = some (Ho.mk k0 y.er); rw [HYe.out])
          go_wp2_with fail
          clear c90 c91 l9
          refine wp_region_noPanic ?_
          have HBr := Lib.hid (HBr.out.drew)
          have H10 := Lib.hid (H10.out.below (Below.refl _ _).drew)
          have HN9 := Lib.hid (HN9.out.below (Below.refl _ _).drew)
          have HY := Lib.hid (HY.out.on (keeps_below _ (Below.refl _ _).drew))
          generalize hv : w12.drew = v at HBr H10 HN9 HY
          obtain ⟨bn, on, hA, hbl, hcc⟩ := ints_cells HN9.out.stays.out (by simp)
          subst hA
          have HNC : Hid (∀ W, Held wr.heap.size b9 (fun W => Rd W 1 (some ⟨bn, on, none⟩) 1 (intC [k0])) W → W.cell? ⟨bn, on, none⟩ = some (.int .i64 k0)) := Lib.hid (fun W hW => by
            obtain ⟨b2, o2, hA2, _, hc2⟩ := ints_cells hW.stays.out (by simp)
            simp only [Option.some.injEq, Addr.mk.injEq] at hA2
            obtain ⟨rfl, rfl, _⟩ := hA2
            exact hc2 0 _ rfl)
          have HXv := Lib.hid (HX.out.below HBr.out)
          have hC : v.cell? ⟨bn, on, none⟩ = some (.int .i64 k0) ∧ v.rangeAt b10 0 [.int .i64 y.view, .string ⟨y.value.toArray⟩, .slice y.cert.a y.cert.l.length y.cert.c] := ⟨HNC.out v HN9.out, H10.out.range⟩
          have c4 := HXv.out.cells 4 _ rfl
          have l5 := HXv.out.lt
          clear hcc hbl
          refine wp_region_held_drew (S := fun W => W.cell? ⟨bn, on, none⟩ = some (.int .i64 k0) ∧ W.rangeAt b10 0 [.int .i64 y.view, .string ⟨y.value.toArray⟩, .slice y.cert.a y.cert.l.length y.cert.c]) (by kernel_rfl) (by rw [hv]; exact hC) (fun hHeld => ?_)
          rw [hv] at hHeld ⊢
          clear hv
          refine wpAnyH_take (i := 0) (oi := _) (v := ?_) rfl (by kernel_rfl) (by kernel_rfl) (by kernel_rfl) (fun _ _ _ h => h) (Or.inl ⟨by rfl, ?_⟩) (by assumption) ?_
          rotate_left
          · intro W hSw; (try dsimp only at hSw); go_simp; try with_reducible rfl
          try simp only [Act.put, List.setIfInBounds_toArray, List.set_cons_zero, List.set_cons_succ, List.getElem_toArray, List.getElem_cons_zero]
          refine wpAnyH_take (i := 2) (oi := _) (v := ?_) rfl (by kernel_rfl) (by kernel_rfl) (by kernel_rfl) (fun _ _ _ h => h) (Or.inl ⟨by rfl, ?_⟩) (by assumption) ?_
          rotate_left
          · intro W hSw; (try dsimp only at hSw); go_simp; try with_reducible rfl
          try simp only [Act.put, List.setIfInBounds_toArray, List.set_cons_zero, List.set_cons_succ, List.getElem_toArray, List.getElem_cons_succ, List.getElem_cons_zero]
          refine wpAnyH_take (i := 3) (oi := _) (v := ?_) rfl (by kernel_rfl) (by kernel_rfl) (by kernel_rfl) (fun _ _ _ h => h) (Or.inl ⟨by rfl, ?_⟩) (by assumption) ?_
          rotate_left
          · intro W hSw; (try dsimp only at hSw); go_simp; try with_reducible rfl
          try simp only [Act.put, List.setIfInBounds_toArray, List.set_cons_zero, List.set_cons_succ, List.getElem_toArray, List.getElem_cons_succ, List.getElem_cons_zero]
          refine wpAnyH_take (i := 4) (oi := _) (v := ?_) rfl (by kernel_rfl) (by kernel_rfl) (by kernel_rfl) (fun _ _ _ h => h) (Or.inl ⟨by rfl, ?_⟩) (by assumption) ?_
          rotate_left
          · intro W hSw; (try dsimp only at hSw); go_simp; try with_reducible rfl
          try simp only [Act.put, List.setIfInBounds_toArray, List.set_cons_zero, List.set_cons_succ, List.getElem_toArray, List.getElem_cons_succ, List.getElem_cons_zero]
          refine wpAnyH_take (i := 5) (oi := _) rfl (by kernel_rfl) (by kernel_rfl) (by kernel_rfl) (fun _ _ _ h => h) (yieldsIf_load_mid (by rfl) 78 _ (by rfl) _ 0 (by rfl) [.int .i64 y.view, .string ⟨y.value.toArray⟩, .slice y.cert.a y.cert.l.length y.cert.c] _ (fun _ h => h.2) Tryz.underlying78 rfl (infoDen y)) (by assumption) ?_
          try simp only [Act.put, List.setIfInBounds_toArray, List.set_cons_zero, List.set_cons_succ, List.getElem_toArray, List.getElem_cons_succ, List.getElem_cons_zero]
          refine wpAnyH_take (i := 6) (oi := _) (v := ?_) rfl (by kernel_rfl) (by kernel_rfl) (by kernel_rfl) (fun _ _ _ h => h) (Or.inl ⟨by rfl, ?_⟩) (by assumption) ?_
          rotate_left
          · intro W hSw; (try dsimp only at hSw); go_simp; try with_reducible rfl
          try simp only [Act.put, List.setIfInBounds_toArray, List.set_cons_zero, List.set_cons_succ, List.getElem_toArray, List.getElem_cons_succ, List.getElem_cons_zero]
          refine wpAnyH_ready (rs := [1, 7]) (by kernel_rfl) (by simp) ?_
          refine AllReadyH.cons (o := _) rfl (fun K hK => ?_) ?_
          · go_simp
            refine hK.out _ _ hC (fun hHeld => ?_)
            clear hK K
            try simp only [Act.put, List.setIfInBounds_toArray, List.set_cons_zero, List.set_cons_succ, List.getElem_toArray, List.getElem_cons_succ, List.getElem_cons_zero]
            refine wpAnyH_ready (rs := [7]) (by kernel_rfl) (by simp) ?_
            refine AllReadyH.cons (o := _) rfl (fun K hK => ?_) AllReadyH.nil
            go_simp
            have HBa : Hid (Below wr.heap.size wr (v.alloc (.cells #[.int .i64 k0, .int .i64 y.view, .string ⟨y.value.toArray⟩, .slice y.cert.a y.cert.l.length y.cert.c] 127))) := Lib.hid (bon HBr.out (below_new _ _))
            have H10 := Lib.hid (H10.out.below (below_new v (.cells #[.int .i64 k0, .int .i64 y.view, .string ⟨y.value.toArray⟩, .slice y.cert.a y.cert.l.length y.cert.c] 127)))
            have HN9 := Lib.hid (HN9.out.below (below_new v (.cells #[.int .i64 k0, .int .i64 y.view, .string ⟨y.value.toArray⟩, .slice y.cert.a y.cert.l.length y.cert.c] 127)))
            have HY := Lib.hid (HY.out.on (keeps_below _ (below_new v (.cells #[.int .i64 k0, .int .i64 y.view, .string ⟨y.value.toArray⟩, .slice y.cert.a y.cert.l.length y.cert.c] 127))))
            have hnew := cell_new v [.int .i64 k0, .int .i64 y.view, .string ⟨y.value.toArray⟩, .slice y.cert.a y.cert.l.length y.cert.c] 127 _ rfl
            have hza : (v.alloc (.cells #[.int .i64 k0, .int .i64 y.view, .string ⟨y.value.toArray⟩, .slice y.cert.a y.cert.l.length y.cert.c] 127)).heap.size = v.heap.size + 1 := by simp
            generalize v.alloc (.cells #[.int .i64 k0, .int .i64 y.view, .string ⟨y.value.toArray⟩, .slice y.cert.a y.cert.l.length y.cert.c] 127) = va at HBa H10 HN9 HY hnew hza ⊢
            have c4a := (HX.out.below HBa.out).cells 4 _ rfl
            have l5a := (HX.out.below HBa.out).lt
            have hCa : va.cell? ⟨bn, on, none⟩ = some (.int .i64 k0) ∧ va.rangeAt b10 0 [.int .i64 y.view, .string ⟨y.value.toArray⟩, .slice y.cert.a y.cert.l.length y.cert.c] := ⟨HNC.out va HN9.out, H10.out.range⟩
            refine hK.out _ _ hCa (fun hHeld => ?_)
            clear hK K
            try simp only [Act.put, List.setIfInBounds_toArray, List.set_cons_zero, List.set_cons_succ, List.getElem_toArray, List.getElem_cons_succ, List.getElem_cons_zero]
            refine wpAnyH_ready (rs := [8]) (by kernel_rfl) (by simp) ?_
            refine AllReadyH.cons (o := _) rfl (fun K hK => ?_) AllReadyH.nil
            have HOa := Lib.hid (ownsRow_below HCh.out.own HBa.out)
            have hB9 : B ≤ wr.heap.size := HCh.out.size
            refine step_append_lies _ (by rfl) _ _ _ (by rfl) B 127 i0 _ 4 56 Tryz.underlying32 HI.out HZ0.out HZ1.out HZ2.out rfl (by decide) _ _ _ (by rfl) HOa.out _ 1 1 [.int .i64 k0, .int .i64 y.view, .string ⟨y.value.toArray⟩, .slice y.cert.a y.cert.l.length y.cert.c] (by rfl) (by rfl) hnew (by simp [Value.oneCell']) Nat.one_pos (by simp [maxLen]; omega) (by omega) (by have := HBa.out.size; have := HCh.out.size; omega) va.heap.size rfl ?_
            intro g cap w2 hown hgr hat hlt
            have hat2 : Value.ownBlock (.slice (some ⟨g, 0, none⟩) (j + 1) cap) = o.ownBlock ∨ Value.ownBlock (.slice (some ⟨g, 0, none⟩) (j + 1) cap) = some va.heap.size := by
              rcases hat with e | e
              · exact .inl (by rw [e]; rfl)
              · exact .inr (by rw [e]; rfl)
            have hq9 : ∀ q, o.ownBlock = some q → q < wr.heap.size := fun q hq => (HCh.out.own.lt q hq).2
            have HN9 := Lib.hid (HN9.out.rowO hgr (fun q hq => Or.inl (hq9 q hq)))
            have H10 : Hid (Vr w2 b10 (deC y)) := Lib.hid (by
              cases ho : o.ownBlock with
              | none => rw [ho] at hgr; exact H10.out.below ⟨hgr.os, hgr.tape, hgr.output, hgr.size, fun i hi => hgr.block i hi (by simp)⟩
              | some q => rw [ho] at hgr; exact H10.out.grown hgr (by have := hq9 q ho; omega))
            have HX2 := Lib.hid (HCh.out.vr HBa.out hgr HX.out hB5)
            have c4b := HX2.out.cells 4 _ rfl
            have f4b := HX2.out.free 4 (by simp)
            have l5b := HX2.out.lt
            have HCh2 := Lib.hid (HCh.out.step (x := ⟨k0, y⟩) hB5 hB3 HBa.out hlt1 (by rw [HWh.out]) hu10 (HY.out.imp (fun W hW => ⟨HK64.out, hW⟩)) hown hgr hat2)
            have HB2 := Lib.hid (HCh.out.low (v' := .slice (some ⟨g, 0, none⟩) (j + 1) cap) hB5 (by omega) HB.out HBa.out hgr)
            have HR2' := Lib.hid ((HCh.out.vr HBa.out hgr HR.out (by omega)).grown (grown_set w2 ⟨b5, 4, none⟩ (.slice (some ⟨g, 0, none⟩) (j + 1) cap)) (by show w.heap.size ≠ b5; omega))
            have HV2' := Lib.hid ((HCh.out.vr HBa.out hgr HV.out (by omega)).grown (grown_set w2 ⟨b5, 4, none⟩ (.slice (some ⟨g, 0, none⟩) (j + 1) cap)) (by show w.heap.size + 1 ≠ b5; omega))
            have HQ2' := Lib.hid ((HCh.out.vr HBa.out hgr HQ.out (by omega)).grown (grown_set w2 ⟨b5, 4, none⟩ (.slice (some ⟨g, 0, none⟩) (j + 1) cap)) (by show w.heap.size + 2 ≠ b5; omega))
            have HX3 := Lib.hid (HX2.out.set 4 (.slice (some ⟨g, 0, none⟩) (j + 1) cap))
            have hC2 : w2.cell? ⟨bn, on, none⟩ = some (.int .i64 k0) ∧ w2.rangeAt b10 0 [.int .i64 y.view, .string ⟨y.value.toArray⟩, .slice y.cert.a y.cert.l.length y.cert.c] := ⟨HNC.out w2 HN9.out, H10.out.range⟩
            have HN9 := Lib.hid (HN9.out.row (grown_set w2 ⟨b5, 4, none⟩ (.slice (some ⟨g, 0, none⟩) (j + 1) cap)) (Or.inl (by show b5 < wr.heap.size; omega)))
            have hC3 : (w2.setCell ⟨b5, 4, none⟩ (.slice (some ⟨g, 0, none⟩) (j + 1) cap)).cell? ⟨bn, on, none⟩ = some (.int .i64 k0) ∧ (w2.setCell ⟨b5, 4, none⟩ (.slice (some ⟨g, 0, none⟩) (j + 1) cap)).rangeAt b10 0 [.int .i64 y.view, .string ⟨y.value.toArray⟩, .slice y.cert.a y.cert.l.length y.cert.c] := ⟨HNC.out _ HN9.out, (H10.out.grown (grown_set w2 ⟨b5, 4, none⟩ (.slice (some ⟨g, 0, none⟩) (j + 1) cap)) (by show b10 ≠ b5; omega)).range⟩
            clear hown hgr hat hat2
            refine hK.out _ _ hC2 (fun hHeld => ?_)
            clear hK K
            try simp only [Act.put, List.setIfInBounds_toArray, List.set_cons_zero, List.set_cons_succ, List.getElem_toArray, List.getElem_cons_succ, List.getElem_cons_zero]
            refine wpAnyH_take (i := 9) (oi := _) (v := ?_) rfl (by kernel_rfl) (by kernel_rfl) (by kernel_rfl) (fun _ _ _ h => h) (Or.inl ⟨by rfl, ?_⟩) (by assumption) ?_
            rotate_left
            · intro W hSw; (try dsimp only at hSw); go_simp; try with_reducible rfl
            try simp only [Act.put, List.setIfInBounds_toArray, List.set_cons_zero, List.set_cons_succ, List.getElem_toArray, List.getElem_cons_succ, List.getElem_cons_zero]
            refine wpAnyH_ready (rs := [10]) (by kernel_rfl) (by simp) ?_
            refine AllReadyH.cons (o := _) rfl (fun K hK => ?_) AllReadyH.nil
            go_simp
            refine hK.out _ _ hC3 (fun hHeld => ?_)
            clear hK K
            try simp only [Act.put, List.setIfInBounds_toArray, List.set_cons_zero, List.set_cons_succ, List.getElem_toArray, List.getElem_cons_succ, List.getElem_cons_zero]
            refine wpAnyH_done (by kernel_rfl) ?_ _
            refine NoPanic.normal ?_
            clear hC hC2 hC3 c4 l5 hHeld
            go_wp2_with fail
            go_roundw
            case rel => exact ⟨j + 1, _, _, _, by go_num, by omega, HCh2.out, HR2'.out, HX3.out, HV2'.out, HQ2'.out, HB2.out⟩
            case measure => simp [intOf]; omega
          refine AllReadyH.cons (o := _) rfl (fun K hK => ?_) AllReadyH.nil
          go_simp
          have HBa : Hid (Below wr.heap.size wr (v.alloc (.cells #[.int .i64 k0, .int .i64 y.view, .string ⟨y.value.toArray⟩, .slice y.cert.a y.cert.l.length y.cert.c] 127))) := Lib.hid (bon HBr.out (below_new _ _))
          have H10 := Lib.hid (H10.out.below (below_new v (.cells #[.int .i64 k0, .int .i64 y.view, .string ⟨y.value.toArray⟩, .slice y.cert.a y.cert.l.length y.cert.c] 127)))
          have HN9 := Lib.hid (HN9.out.below (below_new v (.cells #[.int .i64 k0, .int .i64 y.view, .string ⟨y.value.toArray⟩, .slice y.cert.a y.cert.l.length y.cert.c] 127)))
          have HY := Lib.hid (HY.out.on (keeps_below _ (below_new v (.cells #[.int .i64 k0, .int .i64 y.view, .string ⟨y.value.toArray⟩, .slice y.cert.a y.cert.l.length y.cert.c] 127))))
          have hnew := cell_new v [.int .i64 k0, .int .i64 y.view, .string ⟨y.value.toArray⟩, .slice y.cert.a y.cert.l.length y.cert.c] 127 _ rfl
          have hza : (v.alloc (.cells #[.int .i64 k0, .int .i64 y.view, .string ⟨y.value.toArray⟩, .slice y.cert.a y.cert.l.length y.cert.c] 127)).heap.size = v.heap.size + 1 := by simp
          generalize v.alloc (.cells #[.int .i64 k0, .int .i64 y.view, .string ⟨y.value.toArray⟩, .slice y.cert.a y.cert.l.length y.cert.c] 127) = va at HBa H10 HN9 HY hnew hza ⊢
          have c4a := (HX.out.below HBa.out).cells 4 _ rfl
          have l5a := (HX.out.below HBa.out).lt
          have hCa : va.cell? ⟨bn, on, none⟩ = some (.int .i64 k0) ∧ va.rangeAt b10 0 [.int .i64 y.view, .string ⟨y.value.toArray⟩, .slice y.cert.a y.cert.l.length y.cert.c] := ⟨HNC.out va HN9.out, H10.out.range⟩
          refine hK.out _ _ hCa (fun hHeld => ?_)
          clear hK K
          try simp only [Act.put, List.setIfInBounds_toArray, List.set_cons_zero, List.set_cons_succ, List.getElem_toArray, List.getElem_cons_succ, List.getElem_cons_zero]
          refine wpAnyH_ready (rs := [1]) (by kernel_rfl) (by simp) ?_
          refine AllReadyH.cons (o := _) rfl (fun K hK => ?_) AllReadyH.nil
          go_simp
          refine hK.out _ _ hCa (fun hHeld => ?_)
          clear hK K
          try simp only [Act.put, List.setIfInBounds_toArray, List.set_cons_zero, List.set_cons_succ, List.getElem_toArray, List.getElem_cons_succ, List.getElem_cons_zero]
          refine wpAnyH_ready (rs := [8]) (by kernel_rfl) (by simp) ?_
          refine AllReadyH.cons (o := _) rfl (fun K hK => ?_) AllReadyH.nil
          have HOa := Lib.hid (ownsRow_below HCh.out.own HBa.out)
          have hB9 : B ≤ wr.heap.size := HCh.out.size
          refine step_append_lies _ (by rfl) _ _ _ (by rfl) B 127 i0 _ 4 56 Tryz.underlying32 HI.out HZ0.out HZ1.out HZ2.out rfl (by decide) _ _ _ (by rfl) HOa.out _ 1 1 [.int .i64 k0, .int .i64 y.view, .string ⟨y.value.toArray⟩, .slice y.cert.a y.cert.l.length y.cert.c] (by rfl) (by rfl) hnew (by simp [Value.oneCell']) Nat.one_pos (by simp [maxLen]; omega) (by omega) (by have := HBa.out.size; have := HCh.out.size; omega) va.heap.size rfl ?_
          intro g cap w2 hown hgr hat hlt
          have hat2 : Value.ownBlock (.slice (some ⟨g, 0, none⟩) (j + 1) cap) = o.ownBlock ∨ Value.ownBlock (.slice (some ⟨g, 0, none⟩) (j + 1) cap) = some va.heap.size := by
            rcases hat with e | e
            · exact .inl (by rw [e]; rfl)
            · exact .inr (by rw [e]; rfl)
          have hq9 : ∀ q, o.ownBlock = some q → q < wr.heap.size := fun q hq => (HCh.out.own.lt q hq).2
          have HN9 := Lib.hid (HN9.out.rowO hgr (fun q hq => Or.inl (hq9 q hq)))
          have H10 : Hid (Vr w2 b10 (deC y)) := Lib.hid (by
            cases ho : o.ownBlock with
            | none => rw [ho] at hgr; exact H10.out.below ⟨hgr.os, hgr.tape, hgr.output, hgr.size, fun i hi => hgr.block i hi (by simp)⟩
            | some q => rw [ho] at hgr; exact H10.out.grown hgr (by have := hq9 q ho; omega))
          have HX2 := Lib.hid (HCh.out.vr HBa.out hgr HX.out hB5)
          have c4b := HX2.out.cells 4 _ rfl
          have f4b := HX2.out.free 4 (by simp)
          have l5b := HX2.out.lt
          have HCh2 := Lib.hid (HCh.out.step (x := ⟨k0, y⟩) hB5 hB3 HBa.out hlt1 (by rw [HWh.out]) hu10 (HY.out.imp (fun W hW => ⟨HK64.out, hW⟩)) hown hgr hat2)
          have HB2 := Lib.hid (HCh.out.low (v' := .slice (some ⟨g, 0, none⟩) (j + 1) cap) hB5 (by omega) HB.out HBa.out hgr)
          have HR2' := Lib.hid ((HCh.out.vr HBa.out hgr HR.out (by omega)).grown (grown_set w2 ⟨b5, 4, none⟩ (.slice (some ⟨g, 0, none⟩) (j + 1) cap)) (by show w.heap.size ≠ b5; omega))
          have HV2' := Lib.hid ((HCh.out.vr HBa.out hgr HV.out (by omega)).grown (grown_set w2 ⟨b5, 4, none⟩ (.slice (some ⟨g, 0, none⟩) (j + 1) cap)) (by show w.heap.size + 1 ≠ b5; omega))
          have HQ2' := Lib.hid ((HCh.out.vr HBa.out hgr HQ.out (by omega)).grown (grown_set w2 ⟨b5, 4, none⟩ (.slice (some ⟨g, 0, none⟩) (j + 1) cap)) (by show w.heap.size + 2 ≠ b5; omega))
          have HX3 := Lib.hid (HX2.out.set 4 (.slice (some ⟨g, 0, none⟩) (j + 1) cap))
          have hC2 : w2.cell? ⟨bn, on, none⟩ = some (.int .i64 k0) ∧ w2.rangeAt b10 0 [.int .i64 y.view, .string ⟨y.value.toArray⟩, .slice y.cert.a y.cert.l.length y.cert.c] := ⟨HNC.out w2 HN9.out, H10.out.range⟩
          have HN9 := Lib.hid (HN9.out.row (grown_set w2 ⟨b5, 4, none⟩ (.slice (some ⟨g, 0, none⟩) (j + 1) cap)) (Or.inl (by show b5 < wr.heap.size; omega)))
          have hC3 : (w2.setCell ⟨b5, 4, none⟩ (.slice (some ⟨g, 0, none⟩) (j + 1) cap)).cell? ⟨bn, on, none⟩ = some (.int .i64 k0) ∧ (w2.setCell ⟨b5, 4, none⟩ (.slice (some ⟨g, 0, none⟩) (j + 1) cap)).rangeAt b10 0 [.int .i64 y.view, .string ⟨y.value.toArray⟩, .slice y.cert.a y.cert.l.length y.cert.c] := ⟨HNC.out _ HN9.out, (H10.out.grown (grown_set w2 ⟨b5, 4, none⟩ (.slice (some ⟨g, 0, none⟩) (j + 1) cap)) (by show b10 ≠ b5; omega)).range⟩
          clear hown hgr hat hat2
          refine hK.out _ _ hC2 (fun hHeld => ?_)
          clear hK K
          try simp only [Act.put, List.setIfInBounds_toArray, List.set_cons_zero, List.set_cons_succ, List.getElem_toArray, List.getElem_cons_succ, List.getElem_cons_zero]
          refine wpAnyH_take (i := 9) (oi := _) (v := ?_) rfl (by kernel_rfl) (by kernel_rfl) (by kernel_rfl) (fun _ _ _ h => h) (Or.inl ⟨by rfl, ?_⟩) (by assumption) ?_
          rotate_left
          · intro W hSw; (try dsimp only at hSw); go_simp; try with_reducible rfl
          try simp only [Act.put, List.setIfInBounds_toArray, List.set_cons_zero, List.set_cons_succ, List.getElem_toArray, List.getElem_cons_succ, List.getElem_cons_zero]
          refine wpAnyH_ready (rs := [10]) (by kernel_rfl) (by simp) ?_
          refine AllReadyH.cons (o := _) rfl (fun K hK => ?_) AllReadyH.nil
          go_simp
          refine hK.out _ _ hC3 (fun hHeld => ?_)
          clear hK K
          try simp only [Act.put, List.setIfInBounds_toArray, List.set_cons_zero, List.set_cons_succ, List.getElem_toArray, List.getElem_cons_succ, List.getElem_cons_zero]
          refine wpAnyH_done (by kernel_rfl) ?_ _
          refine NoPanic.normal ?_
          clear hC hC2 hC3 c4 l5 hHeld
          go_wp2_with fail
          go_roundw
          case rel => exact ⟨j + 1, _, _, _, by go_num, by omega, HCh2.out, HR2'.out, HX3.out, HV2'.out, HQ2'.out, HB2.out⟩
          case measure => simp [intOf]; omega
    · obtain rfl : j = t4.length := by omega
      have HS : Hid (rkSn r = (⟨n0, t1, Sl.of t2, Sl.of t3, Sl.of (xs.map Ho.er)⟩, r4)) := Lib.hid (by rw [HSpec.out, HCh.out.all, List.drop_length, many]; simp)
      obtain ⟨ao, co, hv⟩ := ownsRow_form HCh.out.own
      subst hv
      have HLn := Lib.hid HCh.out.len
      have HHe := Lib.hid HCh.out.held
      have HRow := Lib.hid (held_row HCh.out.own hB3 hB5)
      have HX := Lib.hid (HX.out.eq (cs' := snC ⟨n0, t1, ⟨a2, c2, t2⟩, ⟨a3, c3, t3⟩, ⟨ao, co, xs⟩⟩) (by unfold snC Sl.v; rw [HLn.out]))
      have HSpec := HS
      clear HCh HS HTL4 i0 HI HZ0 HZ1 HZ2 HF0
      go_wp2_with fail
      refine wp_region_noPanic ?_
      have HR := Lib.hid (HR.out.below (Below.refl _ _).drew)
      have HX := Lib.hid (HX.out.below (Below.refl _ _).drew)
      have HV := Lib.hid (HV.out.below (Below.refl _ _).drew)
      have HQ := Lib.hid (HQ.out.below (Below.refl _ _).drew)
      have HB := Lib.hid (HB.out.drew)
      have HHe := Lib.hid (HHe.out.below (Below.refl _ _).drew)
      have HRow := Lib.hid (HRow.out.below (Below.refl _ _).drew)
      generalize hv : wr.drew = v at HR HX HV HQ HB HHe HRow
      refine wp_region_held_drew (S := fun W => W.rangeAt b5 0 (snC ⟨n0, t1, ⟨a2, c2, t2⟩, ⟨a3, c3, t3⟩, ⟨ao, co, xs⟩⟩) ∧ W.rangeAt w.heap.size 0 (rcC r4)) (by kernel_rfl) (by rw [hv]; exact ⟨HX.out.range, HR.out.range⟩) (fun hHeld => ?_)
      rw [hv] at hHeld ⊢
      clear hv
      refine wpAnyH_take (i := 0) (oi := _) rfl (by kernel_rfl) (by kernel_rfl) (by kernel_rfl) (fun _ _ _ h => h) (yieldsIf_load_mid (by rfl) 34 _ (by rfl) _ 0 (by rfl) (snC ⟨n0, t1, ⟨a2, c2, t2⟩, ⟨a3, c3, t3⟩, ⟨ao, co, xs⟩⟩) _ (fun _ h => h.1) Tryz.underlying34 rfl (infoSnn ⟨n0, t1, ⟨a2, c2, t2⟩, ⟨a3, c3, t3⟩, ⟨ao, co, xs⟩⟩)) (by assumption) ?_
      try simp only [Act.put, List.setIfInBounds_toArray, List.set_cons_zero, List.set_cons_succ, List.getElem_toArray, List.getElem_cons_zero]
      refine wpAnyH_take (i := 1) (oi := _) rfl (by kernel_rfl) (by kernel_rfl) (by kernel_rfl) (fun _ _ _ h => h) (yieldsIf_load_mid (by rfl) 63 _ (by rfl) _ 0 (by rfl) (rcC r4) _ (fun _ h => h.2) Tryz.underlying63 rfl (infoRc r4)) (by assumption) ?_
      try simp only [Act.put, List.setIfInBounds_toArray, List.set_cons_zero, List.set_cons_succ, List.getElem_toArray, List.getElem_cons_succ, List.getElem_cons_zero]
      refine wpAnyH_ready (rs := [2]) (by kernel_rfl) (by simp) ?_
      refine AllReadyH.cons (o := _) rfl (fun K hK => ?_) AllReadyH.nil
      rw [if_pos (by rfl)]
      refine wp_store_mid 34 _ _ rfl (w.heap.size + 1) 0 (snC ⟨n0, t1, ⟨a2, c2, t2⟩, ⟨a3, c3, t3⟩, ⟨ao, co, xs⟩⟩).toArray rfl rfl (HV.out.there rfl) (infoSnn ⟨n0, t1, ⟨a2, c2, t2⟩, ⟨a3, c3, t3⟩, ⟨ao, co, xs⟩⟩) (snC_one' ⟨n0, t1, ⟨a2, c2, t2⟩, ⟨a3, c3, t3⟩, ⟨ao, co, xs⟩⟩) ?_
      try simp only []
      have HR := Lib.hid (HR.out.grown (grown_vs (w := v) (b := (w.heap.size + 1)) (snC ⟨n0, t1, ⟨a2, c2, t2⟩, ⟨a3, c3, t3⟩, ⟨ao, co, xs⟩⟩)) (by show w.heap.size ≠ (w.heap.size + 1); omega))
      have HX := Lib.hid (HX.out.grown (grown_vs (w := v) (b := (w.heap.size + 1)) (snC ⟨n0, t1, ⟨a2, c2, t2⟩, ⟨a3, c3, t3⟩, ⟨ao, co, xs⟩⟩)) (by show b5 ≠ (w.heap.size + 1); omega))
      have HV := Lib.hid (HV.out.sets (snC ⟨n0, t1, ⟨a2, c2, t2⟩, ⟨a3, c3, t3⟩, ⟨ao, co, xs⟩⟩) rfl)
      have HQ := Lib.hid (HQ.out.grown (grown_vs (w := v) (b := (w.heap.size + 1)) (snC ⟨n0, t1, ⟨a2, c2, t2⟩, ⟨a3, c3, t3⟩, ⟨ao, co, xs⟩⟩)) (by show (w.heap.size + 2) ≠ (w.heap.size + 1); omega))
      have HB := Lib.hid (below_gr HB.out (grown_vs (w := v) (b := (w.heap.size + 1)) (snC ⟨n0, t1, ⟨a2, c2, t2⟩, ⟨a3, c3, t3⟩, ⟨ao, co, xs⟩⟩)) (by show w.heap.size ≤ (w.heap.size + 1); omega))
      have HHe := Lib.hid (HHe.out.row (grown_vs (w := v) (b := (w.heap.size + 1)) (snC ⟨n0, t1, ⟨a2, c2, t2⟩, ⟨a3, c3, t3⟩, ⟨ao, co, xs⟩⟩)) (by show (w.heap.size + 1) < w.heap.size + 3 ∨ (w.heap.size + 1) = b5; omega))
      have HRow := Lib.hid (HRow.out.row (grown_vs (w := v) (b := (w.heap.size + 1)) (snC ⟨n0, t1, ⟨a2, c2, t2⟩, ⟨a3, c3, t3⟩, ⟨ao, co, xs⟩⟩)) (by show (w.heap.size + 1) < w.heap.size + 3 ∨ (w.heap.size + 1) = b5; omega))
      generalize v.setCells (w.heap.size + 1) 0 (snC ⟨n0, t1, ⟨a2, c2, t2⟩, ⟨a3, c3, t3⟩, ⟨ao, co, xs⟩⟩) = v5 at HR HX HV HQ HB HHe HRow ⊢
      refine hK.out _ _ ⟨HX.out.range, HR.out.range⟩ (fun hHeld => ?_)
      clear hK K
      try simp only [Act.put, List.getElem_toArray, List.getElem_cons_succ, List.getElem_cons_zero]
      refine wpAnyH_ready (rs := [3]) (by kernel_rfl) (by simp) ?_
      refine AllReadyH.cons (o := _) rfl (fun K hK => ?_) AllReadyH.nil
      rw [if_pos (by rfl)]
      refine wp_store_mid 63 _ _ rfl (w.heap.size + 2) 0 (rcC r4).toArray rfl rfl (HQ.out.there (n := 2) rfl) (infoRc r4) (rcC_one r4) ?_
      try simp only []
      have HR := Lib.hid (HR.out.grown (grown_vs (w := v5) (b := (w.heap.size + 2)) (rcC r4)) (by show w.heap.size ≠ (w.heap.size + 2); omega))
      have HX := Lib.hid (HX.out.grown (grown_vs (w := v5) (b := (w.heap.size + 2)) (rcC r4)) (by show b5 ≠ (w.heap.size + 2); omega))
      have HV := Lib.hid (HV.out.grown (grown_vs (w := v5) (b := (w.heap.size + 2)) (rcC r4)) (by show (w.heap.size + 1) ≠ (w.heap.size + 2); omega))
      have HQ := Lib.hid (HQ.out.sets (rcC r4) rfl)
      have HB := Lib.hid (below_gr HB.out (grown_vs (w := v5) (b := (w.heap.size + 2)) (rcC r4)) (by show w.heap.size ≤ (w.heap.size + 2); omega))
      have HHe := Lib.hid (HHe.out.row (grown_vs (w := v5) (b := (w.heap.size + 2)) (rcC r4)) (by show (w.heap.size + 2) < w.heap.size + 3 ∨ (w.heap.size + 2) = b5; omega))
      have HRow := Lib.hid (HRow.out.row (grown_vs (w := v5) (b := (w.heap.size + 2)) (rcC r4)) (by show (w.heap.size + 2) < w.heap.size + 3 ∨ (w.heap.size + 2) = b5; omega))
      generalize v5.setCells (w.heap.size + 2) 0 (rcC r4) = v6 at HR HX HV HQ HB HHe HRow ⊢
      refine hK.out _ _ ⟨HX.out.range, HR.out.range⟩ (fun hHeld => ?_)
      clear hK K
      try simp only [Act.put, List.getElem_toArray, List.getElem_cons_succ, List.getElem_cons_zero]
      refine wpAnyH_done (by kernel_rfl) ?_ _
      refine NoPanic.normal ?_
      go_wp2_with fail
      refine bodyPost_ret (v := .tuple #[.agg (snC ⟨n0, t1, ⟨a2, c2, t2⟩, ⟨a3, c3, t3⟩, ⟨ao, co, xs⟩⟩).toArray, .agg (rcC r4).toArray]) ?_ rfl (ret_rx (x := ⟨n0, t1, ⟨a2, c2, t2⟩, ⟨a3, c3, t3⟩, ⟨ao, co, xs⟩⟩) HSpec.out rfl ?_ ?_ HB.out)
      · exact results_mid2 Tryz.results41 _ _ ((w.heap.size + 1)) ((w.heap.size + 2)) (snC ⟨n0, t1, ⟨a2, c2, t2⟩, ⟨a3, c3, t3⟩, ⟨ao, co, xs⟩⟩) (rcC r4) _ _ rfl rfl HV.out.range HQ.out.range Tryz.underlying34 rfl (infoSnn ⟨n0, t1, ⟨a2, c2, t2⟩, ⟨a3, c3, t3⟩, ⟨ao, co, xs⟩⟩) Tryz.underlying63 rfl (infoRc r4)
      · show Sn.mk n0 t1 (Sl.er ⟨a2, c2, t2⟩) (Sl.er ⟨a3, c3, t3⟩) (Sl.of (xs.map Ho.er)) = _
        rfl
      · exact fun W hW => ⟨HN64.out n0 (by simp), by have h9 := (HHe.out.stays.low (by omega) W hW).1.1.1; show Rd W 1 a2 t2.length (t2.flatMap strV); rw [strV_strC]; exact h9, (HHe.out.stays.low (by omega) W hW).1.1.2, by have h9 := HRow.out.stays.low (by omega) W hW; show Rd W 4 ao xs.length (xs.flatMap hoC); rw [HLn.out]; exact h9, (HHe.out.stays.low (by omega) W hW).2⟩
end Go.Proofs.YtoehakekjlebdaaGreatDoor
