/- The contracts of the checks of a snapshot, of the error that was found, of kinds and of zero snapshots. -/
import Derived.Test.YtoehakekjlebdaaDoorValB
namespace Go.Proofs.YtoehakekjlebdaaDoor
open Go.RowKit

theorem root_val (x : Sn) : (decide ((64 : Int) < x.root.length) || decide ((20 : Int) < x.chain.l.length)) = (false || !(decide (x.root.length ≤ 64) && decide (x.chain.l.length ≤ 20))) := by
  rw [show (20 : Int) = ((20 : Nat) : Int) from rfl, show (64 : Int) = ((64 : Nat) : Int) from rfl, long_val, long_val]
  cases decide (x.root.length ≤ 64) <;> cases decide (x.chain.l.length ≤ 20) <;> rfl
theorem root_no (x : Sn) (h : ¬ x.root.length ≤ 64) : true = (false || !(decide (x.root.length ≤ 64) && decide (x.chain.l.length ≤ 20))) := by simp [h]
def snRange (x : Sn) : Bool := num x.slot && x.chain.l.all hoRange
def snShort (x : Sn) : Bool := decide (x.root.length ≤ 64) && decide (x.chain.l.length ≤ 20) && certShort x.proof.l && x.chain.l.all fun h => deShort h.entry
theorem hoC_lenV (x : Ho) : (hoC x).length = 4 := rfl
set_option maxRecDepth 100000 in
set_option maxHeartbeats 16000000 in
theorem snapshotCk_any (g : Nat) (o t : Bool) (x : Sn) (w : World) (hk : Ck w g o t) (hr : RdN g w 6 x.proof.a x.proof.l.length (x.proof.l.flatMap sgC)) (hn : x.proof.l.length ≤ 1099511627776)
    (hc : RdN g w 4 x.chain.a x.chain.l.length (x.chain.l.flatMap hoC)) (hm : x.chain.l.length ≤ 1099511627776) (he : ∀ h ∈ x.chain.l, RdN g w 6 h.entry.cert.a h.entry.cert.l.length (h.entry.cert.l.flatMap sgC) ∧ h.entry.cert.l.length ≤ 1099511627776) :
    Calls Tryd.prog 25 #[.pointer (some ⟨g, 0, none⟩), .agg #[.int .i64 x.slot, .string ⟨x.root.toArray⟩, .slice x.chunks.a x.chunks.l.length x.chunks.c, .slice x.proof.a x.proof.l.length x.proof.c, .slice x.chain.a x.chain.l.length x.chain.c]] w (RetCk w g (o || !snRange x) (t || !snShort x)) := by
  have HN := Lib.hid (fun n w' => number_any n w')
  have HR := Lib.hid hc
  have HI := Lib.hid he
  have HS : Hid (∀ q1 q2 : Bool, q1 = (o || !num x.slot) → q2 = (t || !(decide (x.root.length ≤ 64) && decide (x.chain.l.length ≤ 20))) → Calls Tryd.prog 44 #[.pointer (some ⟨g, 0, none⟩), .slice x.proof.a x.proof.l.length x.proof.c] (((w.setCell ⟨g, 0, none⟩ (.bool q1)).setCell ⟨g, 1, none⟩ (.bool q2)).alloc (.cells #[.int .i64 x.slot, .string ⟨x.root.toArray⟩, .slice x.chunks.a x.chunks.l.length x.chunks.c, .slice x.proof.a x.proof.l.length x.proof.c, .slice x.chain.a x.chain.l.length x.chain.c] 30)) fun e w1 => e = .returned (.tuple #[]) ∧ ∃ o1 t1, Hid (o1 = (o || !num x.slot) ∧ t1 = (t || !(decide (x.root.length ≤ 64) && decide (x.chain.l.length ≤ 20) && certShort x.proof.l))) ∧ CkTo w g o1 t1 w1 ∧ w.heap.size < w1.heap.size ∧
      w1.cell? ⟨w.heap.size, 4, none⟩ = some (.slice x.chain.a x.chain.l.length x.chain.c)) :=
    Lib.hid (fun q1 q2 h1 h2 => by
      have hc := (((CkTo.refl hk).set0 q1).set1 q2).alloc (.cells #[.int .i64 x.slot, .string ⟨x.root.toArray⟩, .slice x.chunks.a x.chunks.l.length x.chunks.c, .slice x.proof.a x.proof.l.length x.proof.c, .slice x.chain.a x.chain.l.length x.chain.c] 30)
      refine (cert_any g q1 q2 x.proof.a x.proof.c x.proof.l _ hc.2 (hr.kept hc.1) hn).mono fun e w' ⟨he, h⟩ => ⟨he, _, _, Lib.hid ⟨rfl, rfl⟩, (hc.trans h).eq h1 ?_, ?_, ?_⟩
      · rw [h2]; cases t <;> cases decide (x.root.length ≤ 64) <;> cases decide (x.chain.l.length ≤ 20) <;> cases certShort x.proof.l <;> rfl
      · have := h.1.size; simp at this; omega
      · have hgl := hk.lt
        exact box_kept h.1 (by simp) (by omega) _ (new_cell _ (snC x) _ _ (by simp) _ _ rfl))
  have HE : Hid (∀ o1 t1 w', (o1 = (o || !num x.slot) ∧ t1 = (t || !(decide (x.root.length ≤ 64) && decide (x.chain.l.length ≤ 20) && certShort x.proof.l))) → CkTo w g (o1 || !x.chain.l.all hoRange) (t1 || !x.chain.l.all fun h => deShort h.entry) w' → CkTo w g (o || !snRange x) (t || !snShort x) w') :=
    Lib.hid (fun o1 t1 w' he h => h.eq (by rw [he.1]; unfold snRange; cases o <;> cases num x.slot <;> cases x.chain.l.all hoRange <;> rfl) (by
      rw [he.2]; unfold snShort; cases t <;> cases decide (x.root.length ≤ 64) <;> cases decide (x.chain.l.length ≤ 20) <;> cases certShort x.proof.l <;> cases (x.chain.l.all fun h => deShort h.entry) <;> rfl))
  have k0 := hk.c0
  have k1 := hk.c1
  have k2 := hk.f0
  have k3 := hk.f1
  have hgl := hk.lt
  clear hk hr hc he
  cases o <;> cases t
  all_goals
    go_enter Tryd.func25, Tryd.ntmps25
    go_wp2_with (go_at_call 20; refine (HN.out _ _).mono ?_; rintro e w' ⟨rfl, rfl⟩)
  all_goals
    refine (HS.out _ _ (by first | rfl | simp) (by first | rfl | (simp [*]; done) | exact root_val x | exact root_no x (by omega))).mono ?_
    rintro e w1 ⟨rfl, o1, t1, HQ1, b1, hz, a4⟩
    have B1 := Lib.hid b1
    clear b1 k0 k1 k2 k3
    go_wp2_with fail
    go_loopw [45] (fun i wr => ∃ k : Nat, i = .int .i64 k ∧ k ≤ x.chain.l.length ∧ CkTo w g (o1 || !(x.chain.l.take k).all hoRange) (t1 || !(x.chain.l.take k).all fun h => deShort h.entry) wr) (fun i _ => x.chain.l.length - (intOf i).toNat)
    case atStart => exact ⟨0, rfl, by omega, by simpa using B1.out⟩
    case round =>
      clear a4
      obtain ⟨k, rfl, hk, hb⟩ := hrel
      have HB := Lib.hid hb
      clear hb
      by_cases hlt : k < x.chain.l.length
      · have i0' : (0 : Int) ≤ (k : Int) := by omega
        have i1 : (k : Int) < (x.chain.l.length : Int) := by omega
        obtain ⟨b, off, hxa, hg, hne, hcc⟩ := HR.out.at hoC_lenV (by omega) hlt
        have HXA := Lib.hid hxa
        have hrun : Sem.run Tryd.prog (Instr.indexAt 28 (.slice x.chain.a x.chain.l.length x.chain.c) (.int .i64 k)) wr = .ok (Value.pointer (some ⟨b, off + k * 4, none⟩)) wr := by
          rw [HXA.out]; go_simp
        clear hxa
        obtain ⟨y, hy⟩ : ∃ y, y = x.chain.l[k] := ⟨_, rfl⟩
        have HY := Lib.hid hy.symm
        have HM := Lib.hid (hy ▸ List.getElem_mem hlt : y ∈ x.chain.l)
        clear hy
        have a0 : wr.cell? ⟨b, off + k * 4, none⟩ = some (.int .i64 y.slot) := by simpa using hcc wr HB.out.1 0 _ (by rw [HY.out]; rfl)
        have a1 : wr.cell? ⟨b, off + k * 4 + 1, none⟩ = some (.int .i64 y.entry.view) := hcc wr HB.out.1 1 _ (by rw [HY.out]; rfl)
        have a2 : wr.cell? ⟨b, off + k * 4 + 2, none⟩ = some (.string ⟨y.entry.value.toArray⟩) := hcc wr HB.out.1 2 _ (by rw [HY.out]; rfl)
        have a3 : wr.cell? ⟨b, off + k * 4 + 3, none⟩ = some (.slice y.entry.cert.a y.entry.cert.l.length y.entry.cert.c) := hcc wr HB.out.1 3 _ (by rw [HY.out]; rfl)
        have k0 := HB.out.2.c0
        have k1 := HB.out.2.c1
        have k2 := HB.out.2.f0
        have k3 := HB.out.2.f1
        have hgl := HB.out.2.lt
        have HT := Lib.hid (all_take x.chain.l hoRange k hlt)
        have HU := Lib.hid (all_take x.chain.l (fun h => deShort h.entry) k hlt)
        have HW : Hid (∀ q : Bool, q = (o1 || !(x.chain.l.take k).all hoRange || !num y.slot) → Calls Tryd.prog 24 #[.pointer (some ⟨g, 0, none⟩), .agg #[.int .i64 y.entry.view, .string ⟨y.entry.value.toArray⟩, .slice y.entry.cert.a y.entry.cert.l.length y.entry.cert.c]] ((wr.setCell ⟨g, 0, none⟩ (.bool q)).alloc (.cells #[.int .i64 y.slot, .int .i64 y.entry.view, .string ⟨y.entry.value.toArray⟩, .slice y.entry.cert.a y.entry.cert.l.length y.entry.cert.c] 61)) (RetCk w g (o1 || !(x.chain.l.take (k + 1)).all hoRange) (t1 || !(x.chain.l.take (k + 1)).all fun h => deShort h.entry))) :=
          Lib.hid (fun q hq => by
            have hc := ((HB.out.set0 q).alloc (.cells #[.int .i64 y.slot, .int .i64 y.entry.view, .string ⟨y.entry.value.toArray⟩, .slice y.entry.cert.a y.entry.cert.l.length y.entry.cert.c] 61))
            refine (entryCk_any g q _ y.entry _ hc.2 ((HI.out y HM.out).1.kept hc.1) (HI.out y HM.out).2).mono fun e w' ⟨he, h⟩ => ⟨he, (hc.trans h).eq ?_ ?_⟩
            · rw [hq, HT.out, HY.out, show hoRange y = (num y.slot && num y.entry.view) from rfl]; cases o1 <;> cases (x.chain.l.take k).all hoRange <;> cases num y.slot <;> cases num y.entry.view <;> rfl
            · rw [HU.out, HY.out]; cases t1 <;> cases (x.chain.l.take k).all (fun h => deShort h.entry) <;> cases deShort y.entry <;> rfl)
        clear hcc
        cases hq : (o1 || !(x.chain.l.take k).all hoRange)
        all_goals
          rw [hq] at k0
          have HQ := Lib.hid hq
          clear hq
          go_wp2_with (go_at_call 20; refine (HN.out _ _).mono ?_; rintro e w' ⟨rfl, rfl⟩)
          refine (HW.out _ (by rw [HQ.out]; first | done | rfl | simp)).mono ?_
          rintro e w2 ⟨rfl, b2⟩
          have B2 := Lib.hid b2
          clear b2
          go_wp2_with fail
          go_roundw
          case rel => exact ⟨k + 1, by go_num, by omega, B2.out⟩
          case measure => simp [intOf]; omega
      · obtain rfl : k = x.chain.l.length := by omega
        have HF : Hid (CkTo w g (o1 || !x.chain.l.all hoRange) (t1 || !x.chain.l.all fun h => deShort h.entry) wr) := Lib.hid (by simpa using HB.out)
        go_wp2_with fail
        go_end0
        exact ⟨rfl, HE.out _ _ _ HQ1.out HF.out⟩
end Go.Proofs.YtoehakekjlebdaaDoor
