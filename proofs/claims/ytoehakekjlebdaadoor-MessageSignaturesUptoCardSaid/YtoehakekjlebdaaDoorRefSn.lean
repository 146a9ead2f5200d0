/- The contract of the reference's code of a snapshot. -/
import Derived.Test.YtoehakekjlebdaaDoorRefStDe
import Derived.Test.YtoehakekjlebdaaDoorWireL
import Derived.Deep.AppendLies
import Derived.Deep.RegionLaw
namespace Go.Proofs.YtoehakekjlebdaaDoor
open Go.RowKit

theorem hoC_len' (x : Ho) : (hoC x).length = 4 := rfl
theorem bx_grown {w w1 w2 : World} {cs : List Value} {T : TypeId} {row : Option Nat} (h : Bx w cs T w1) (hg : w1.grownBy w2 row) (hr : ∀ g, row = some g → w.heap.size + 1 ≤ g) : Bx w cs T w2 := below_grown h (bx_size h) hg hr
/-- behind two boxes: what a callee leaves that makes only new memory -/
def Gives2 (w wr : World) (cs : List Value) (T : TypeId) (l : List UInt8) (e : Ending) (w' : World) : Prop := e = .returned (.string ⟨l.toArray⟩) ∧ Bx w cs T w' ∧ Below wr.heap.size wr w'
theorem gives2_of {P : Program} {k : FuncId} {args : Array Value} {w wr w1 : World} {cs : List Value} {T : TypeId} {l : List UInt8} (hb : Bx w cs T w1) (hc : Below wr.heap.size wr w1) (h : Calls P k args w1 (RetStr l w1)) : Calls P k args w1 (Gives2 w wr cs T l) :=
  h.mono fun _ _ ⟨he, hw⟩ => ⟨he, bx_on hb hw, bon hc hw⟩
theorem gives2_int {P : Program} {k : FuncId} {w wr w1 : World} {cs : List Value} {T : TypeId} (l : List Int) (hl : l.length ≤ 100) (hi : ∀ n ∈ l, I64 n)
    (hc : ∀ (A : Option Addr) (c : Nat) (w : World), Rd w 1 A l.length (intC l) → Calls P k #[.slice A l.length c] w (RetStr (putInts l) w)) (hb : Bx w cs T (w1.alloc (.cells (intC l).toArray 3)).drew) (hb2 : Below wr.heap.size wr (w1.alloc (.cells (intC l).toArray 3)).drew) {g : Nat} (hg : w1.heap.size = g) :
    Calls P k #[.slice (some ⟨g, 0, none⟩) l.length l.length] (w1.alloc (.cells (intC l).toArray 3)).drew (Gives2 w wr cs T (putInts l)) :=
  hg ▸ gives2_of hb hb2 (hc _ _ _ ((rd_new w1 1 l.length (intC l) 3 (by simp [intC])).below (Below.refl _ _).drew))
/-- behind a world: what a callee leaves that makes only new memory -/
def GivesB (wr : World) (l : List UInt8) (e : Ending) (w' : World) : Prop := e = .returned (.string ⟨l.toArray⟩) ∧ Below wr.heap.size wr w'
theorem givesB_of {P : Program} {k : FuncId} {args : Array Value} {wr w1 : World} {l : List UInt8} (hb : Below wr.heap.size wr w1) (h : Calls P k args w1 (RetStr l w1)) : Calls P k args w1 (GivesB wr l) :=
  h.mono fun _ _ ⟨he, hw⟩ => ⟨he, bon hb hw⟩
theorem givesB_int {P : Program} {k : FuncId} {wr w1 : World} (l : List Int)
    (hc : ∀ (A : Option Addr) (c : Nat) (w : World), Rd w 1 A l.length (intC l) → Calls P k #[.slice A l.length c] w (RetStr (putInts l) w)) (hb : Below wr.heap.size wr (w1.alloc (.cells (intC l).toArray 3)).drew) {g : Nat} (hg : w1.heap.size = g) :
    Calls P k #[.slice (some ⟨g, 0, none⟩) l.length l.length] (w1.alloc (.cells (intC l).toArray 3)).drew (GivesB wr (putInts l)) :=
  hg ▸ givesB_of hb (hc _ _ _ ((rd_new w1 1 l.length (intC l) 3 (by simp [intC])).below (Below.refl _ _).drew))
def GivesStrsB (wr : World) (n : Nat) (l : List (List UInt8)) (e : Ending) (w' : World) : Prop := ∃ A c, e = .returned (.slice A n c) ∧ Rd w' 1 A n (strC l) ∧ Below wr.heap.size wr w'
theorem givesB_strs {P : Program} {k : FuncId} {args : Array Value} {wr w1 : World} {l : List (List UInt8)} (hb : Below wr.heap.size wr w1) {n : Nat} (h : Calls P k args w1 (RetStrs l w1)) (hn : l.length = n) : Calls P k args w1 (GivesStrsB wr n l) :=
  h.mono fun _ _ ⟨A, c, he, hr, hw⟩ => ⟨A, c, by rw [he, hn], by rw [← hn]; exact hr, bon hb hw⟩
set_option maxRecDepth 100000 in
set_option maxHeartbeats 8000000 in
theorem refSnapshot_any (x : Sn) (w : World) (hok : x.ok w) (hs : x.sz ≤ 16777216) :
    Calls Tryd.prog 42 #[.agg #[.int .i64 x.slot, .string ⟨x.root.toArray⟩, .slice x.chunks.a x.chunks.l.length x.chunks.c, .slice x.proof.a x.proof.l.length x.proof.c, .slice x.chain.a x.chain.l.length x.chain.c]] w (RetStr (encSn x) w) := by
  obtain ⟨i0, hi, hz0, hz1, hz2⟩ := info_parts infoS
  have HI := Lib.hid hi
  have HZ0 := Lib.hid hz0
  have HZ1 := Lib.hid hz1
  have HZ2 := Lib.hid hz2
  have HOK := Lib.hid hok
  have HR : Hid (Rd w 4 x.chain.a x.chain.l.length (x.chain.l.flatMap hoC)) := Lib.hid hok.2.2.2.1
  have hz := hs
  unfold Sn.sz at hz
  have hch := strL_len x.chunks.l (by omega)
  have hll := list_len encHo Ho.sz x.chain.l (fun y hy => encHo_len y w (hok.2.2.2.2 y hy) (by have := sum_get Ho.sz _ y hy; omega)) (fun y => by have := y.sz_ge; omega) (by omega)
  have hn : x.chain.l.length ≤ 16777216 := by omega
  have HSZ : Hid (∀ y ∈ x.chain.l, y.sz ≤ 16777216) := Lib.hid (fun y hy => by have := sum_get Ho.sz _ y hy; omega)
  have HK : Hid (∀ w1, Below w.heap.size w w1 → Calls Tryd.prog 66 #[.slice x.proof.a x.proof.l.length x.proof.c] w1 (RetStrs (x.proof.l.map encSg) w1)) := Lib.hid (fun w1 hb => seals_any _ _ _ w1 (Sl.rd_below hok.2.2.1.1 hb) hok.2.2.1.2 (by omega))
  have HL : Hid (∀ w1 A c, Rd w1 1 A x.proof.l.length (strC (x.proof.l.map encSg)) → Calls Tryd.prog 41 #[.slice A x.proof.l.length c] w1 (RetStr (putList (x.proof.l.map encSg)) w1)) := Lib.hid (fun w1 A c hr => by have h3 := cert_len x.proof.l hok.2.2.1.2 (by omega); have h4 := refPutList_any A c (x.proof.l.map encSg) w1 (by simpa using hr) (by simp; omega) (by omega); simpa using h4)
  have HM : Hid (∀ w1 A c, Rd w1 1 A x.chain.l.length (strC (x.chain.l.map encHo)) → Calls Tryd.prog 41 #[.slice A x.chain.l.length c] w1 (RetStr (putList (x.chain.l.map encHo)) w1)) := Lib.hid (fun w1 A c hr => by have h4 := refPutList_any A c (x.chain.l.map encHo) w1 (by simpa using hr) (by simp; omega) (by omega); simpa using h4)
  have HN : Hid (∀ w1, Below w.heap.size w w1 → Calls Tryd.prog 41 #[.slice x.chunks.a x.chunks.l.length x.chunks.c] w1 (RetStr (putList x.chunks.l) w1)) := Lib.hid (fun w1 hb => refPutList_any _ _ _ w1 (by have := Sl.rd_below hok.2.1 hb; unfold Sl.rd at this; rwa [strV_strC] at this) (by omega) (by omega))
  have hI := hok.1
  have hl1 := putInts_len [x.slot] (by simpa [List.forall_mem_cons] using hI) (by simp)
  simp only [List.length_cons, List.length_nil] at hl1
  have hl2 := putStr_len x.root (by omega)
  have hl3 := (cert_len x.proof.l hok.2.2.1.2 (by omega)).1
  have hl4 := hch.1
  have hl5 := hll.1
  have HC5 : Hid (∀ w1, Bx w (snC x) 30 w1 → Bx w (snC x) 30 w1 ∧ w1.cell? ⟨w.heap.size, 0, none⟩ = some (.int .i64 x.slot) ∧ w1.cell? ⟨w.heap.size, 1, none⟩ = some (.string ⟨x.root.toArray⟩) ∧ w1.cell? ⟨w.heap.size, 2, none⟩ = some (.slice x.chunks.a x.chunks.l.length x.chunks.c) ∧ w1.cell? ⟨w.heap.size, 3, none⟩ = some (.slice x.proof.a x.proof.l.length x.proof.c) ∧ w1.cell? ⟨w.heap.size, 4, none⟩ = some (.slice x.chain.a x.chain.l.length x.chain.c)) :=
    Lib.hid (fun w1 hb => ⟨hb, bx_cell hb 0 _ rfl, bx_cell hb 1 _ rfl, bx_cell hb 2 _ rfl, bx_cell hb 3 _ rfl, bx_cell hb 4 _ rfl⟩)
  have hq0 : ¬ (9223372036854775807 < (putInts [x.slot]).length + (putStr x.root).length) := by omega
  have hq1 : ¬ (9223372036854775807 < (putInts [x.slot]).length + (putStr x.root).length + (putList x.chunks.l).length) := by omega
  have hq2 : ¬ (9223372036854775807 < (putInts [x.slot]).length + (putStr x.root).length + (putList x.chunks.l).length + (putList (x.proof.l.map encSg)).length) := by omega
  have hq3 : ¬ (9223372036854775807 < (putInts [x.slot]).length + (putStr x.root).length + (putList x.chunks.l).length + (putList (x.proof.l.map encSg)).length + (putList (x.chain.l.map encHo)).length) := by omega
  have HB0 := Lib.hid (bx_new w (snC x) 30)
  clear hi hz0 hz1 hz2 hok hch hll
  go_enter Tryd.func42, Tryd.ntmps42
  go_wp2_with fail
  go_loopw [3, 4] (fun o i wr => ∃ k : Nat, i = .int .i64 k ∧ k ≤ x.chain.l.length ∧ wr.ownsRow (w.heap.size + 1) 9 1 o k (strC ((x.chain.l.take k).map encHo)) ∧ Bx w (snC x) 30 wr) (fun _ i _ => x.chain.l.length - (intOf i).toNat)
  case atStart => exact ⟨0, rfl, by omega, by simpa [strC] using World.ownsRow_nil _ _ _ _, HB0.out⟩
  case round =>
    obtain ⟨k, rfl, hk, hown, hb⟩ := hrel
    have HO := Lib.hid hown
    have HB := Lib.hid hb
    obtain ⟨-, b0, b1, b2, b3, b4⟩ := HC5.out wr hb
    have hge := bx_size hb
    clear hown hb
    by_cases hlt : k < x.chain.l.length
    · have i0' : (0 : Int) ≤ (k : Int) := by omega
      have i1 : (k : Int) < (x.chain.l.length : Int) := by omega
      obtain ⟨g, o, hxa, hg, hcc⟩ := HR.out.at hoC_len' (by omega) hlt (w' := w)
      obtain ⟨y, hy⟩ : ∃ y, y = x.chain.l[k] := ⟨_, rfl⟩
      have HY := Lib.hid hy.symm
      have hM : y ∈ x.chain.l := hy ▸ List.getElem_mem hlt
      have hyok := HOK.out.2.2.2.2 y hM
      have hysz := HSZ.out y hM
      have hyl := encHo_len y w hyok hysz
      have hye : (encHo y).length = (putInts [y.slot]).length + (encDe y.entry).length := by simp [encHo]
      clear hy
      rw [hxa] at b4
      have HXA := Lib.hid hxa
      clear hxa
      have HC : Hid (∀ w1, Bx w (snC x) 30 w1 → Bx w (snC x) 30 w1 ∧ w1.cell? ⟨w.heap.size, 4, none⟩ = some (.slice (some ⟨g, o, none⟩) x.chain.l.length x.chain.c) ∧ w1.cell? ⟨g, o + k * 4, none⟩ = some (.int .i64 y.slot) ∧ w1.cell? ⟨g, o + k * 4 + 1, none⟩ = some (.int .i64 y.entry.view) ∧ w1.cell? ⟨g, o + k * 4 + 2, none⟩ = some (.string ⟨y.entry.value.toArray⟩) ∧ w1.cell? ⟨g, o + k * 4 + 3, none⟩ = some (.slice y.entry.cert.a y.entry.cert.l.length y.entry.cert.c)) :=
        Lib.hid (fun w1 hb => ⟨hb, by have := (HC5.out w1 hb).2.2.2.2.2; rwa [HXA.out] at this, by simpa using hcc w1 (bx_low hb) 0 _ (by rw [HY.out]; rfl), hcc w1 (bx_low hb) 1 _ (by rw [HY.out]; rfl), hcc w1 (bx_low hb) 2 _ (by rw [HY.out]; rfl), hcc w1 (bx_low hb) 3 _ (by rw [HY.out]; rfl)⟩)
      have HP : Hid (∀ (w1 : World) (g : Nat) (R : Prop), (Bx w (snC x) 30 ((w1.alloc (.cells #[.int .i64 y.slot] 3)).drew) ∧ R) → Below wr.heap.size wr ((w1.alloc (.cells #[.int .i64 y.slot] 3)).drew) → w1.heap.size = g → Calls Tryd.prog 38 #[.slice (some ⟨g, 0, none⟩) 1 1] ((w1.alloc (.cells #[.int .i64 y.slot] 3)).drew) (Gives2 w wr (snC x) 30 (putInts [y.slot]))) :=
        Lib.hid (fun w1 g _ hb hb2 hg => gives2_int [y.slot] (by simp) (by simpa [List.forall_mem_cons] using hyok.1) (fun A c W hr => refPutInts_any A c _ W hr (by simp) (by simpa [List.forall_mem_cons] using hyok.1)) hb.1 hb2 hg)
      have HQ : Hid (∀ (w1 : World) (R : Prop), (Bx w (snC x) 30 w1 ∧ R) → Below wr.heap.size wr w1 → Calls Tryd.prog 37 #[.agg #[.int .i64 y.entry.view, .string ⟨y.entry.value.toArray⟩, .slice y.entry.cert.a y.entry.cert.l.length y.entry.cert.c]] w1 (Gives2 w wr (snC x) 30 (encDe y.entry))) :=
        Lib.hid (fun w1 _ hb hb2 => gives2_of hb.1 hb2 (refEntry_any y.entry w1 (De.below hyok.2 (bx_low hb.1)) (by unfold Ho.sz at hysz; omega)))
      have HOW : Hid (∀ w1, Below wr.heap.size wr w1 → w1.ownsRow (w.heap.size + 1) 9 1 _ k (strC ((x.chain.l.take k).map encHo))) := Lib.hid (fun w1 hb => ownsRow_below HO.out hb)
      have HOB : Hid (∀ b, _ = some b → w.heap.size + 1 ≤ b) := Lib.hid (fun b hb => (HO.out.lt b hb).1)
      have hqa : ¬ (9223372036854775807 < (putInts [y.slot]).length + (encDe y.entry).length) := by omega
      clear hcc hyok
      go_wp2_with fail
      go_region_held3 (fun w1 => Bx w (snC x) 30 w1 ∧ w1.cell? ⟨w.heap.size, 4, none⟩ = some (.slice (some ⟨g, o, none⟩) x.chain.l.length x.chain.c) ∧ w1.cell? ⟨g, o + k * 4, none⟩ = some (.int .i64 y.slot) ∧ w1.cell? ⟨g, o + k * 4 + 1, none⟩ = some (.int .i64 y.entry.view) ∧ w1.cell? ⟨g, o + k * 4 + 2, none⟩ = some (.string ⟨y.entry.value.toArray⟩) ∧ w1.cell? ⟨g, o + k * 4 + 3, none⟩ = some (.slice y.entry.cert.a y.entry.cert.l.length y.entry.cert.c))
        (first | exact HC.out _ (bx_drew HB.out) | exact HC.out _ (bx_alloc (‹Bx _ _ _ _ ∧ _›).1 _) | exact HC.out _ ‹Bx _ _ _ _› | exact HC.out _ (bx_drew (bx_alloc ‹Bx _ _ _ _› _)) | exact HC.out _ (bx_grown (‹Bx _ _ _ _ ∧ _›).1 ‹_› HOB.out))
        (first
          | (go_at_call 38; refine (HP.out _ _ _ (by assumption) (by repeat' (first | exact Below.refl _ _ | apply Below.drew | refine Below.alloc ?_ (by simp) _)) (by simp)).mono ?_; rintro e w2 ⟨rfl, c2, d2⟩)
          | (go_at_call 37; refine (HQ.out _ _ (by assumption) (by first | assumption | exact Below.drew ‹Below wr.heap.size wr _›)).mono ?_; rintro e w3 ⟨rfl, c3, d3⟩)
          | (refine step_append_lies _ (by rfl) _ _ _ (by rfl) (w.heap.size + 1) 9 i0 _ 1 16 Tryd.underlying26 HI.out HZ0.out HZ1.out HZ2.out rfl (by decide) _ _ _ (by rfl) (((HOW.out _ ‹Below wr.heap.size wr _›).alloc _).drew) _ 1 1 [.string ⟨(putInts [y.slot] ++ encDe y.entry).toArray⟩] (by rfl) (by rfl) (World.news_of_block (cs := #[.string ⟨(putInts [y.slot] ++ encDe y.entry).toArray⟩]) (t := 9) (fr := (0, 0)) (heap_alloc_new _ _)) (by simp [Value.oneCell']) (by omega) (by simp [maxLen]; omega) (by omega) (by have hz := bx_size c3; simp; omega) _ rfl ?_; intro gg cap w4 hown1 hgrow hat hlt4))
      all_goals
        have HO3 : Hid (w4.ownsRow (w.heap.size + 1) 9 1 _ (k + 1) (strC ((x.chain.l.take (k + 1)).map encHo))) := Lib.hid (by
          rw [List.take_succ_eq_append_getElem hlt, List.map_append, List.map_cons, List.map_nil, HY.out, strC_snoc, show encHo y = putInts [y.slot] ++ encDe y.entry from rfl]
          simpa only [List.map_take] using hown1)
        have HG3 := Lib.hid hgrow
        have HB3 := Lib.hid c3
        clear hown1 hgrow hat c3 d3
        go_wp2_with fail
        go_roundw
        case rel =>
          exact ⟨k + 1, by go_num, by omega, HO3.out, bx_grown (bx_alloc HB3.out _) HG3.out HOB.out⟩
        case measure => simp [intOf]; omega
    · obtain rfl : k = x.chain.l.length := by omega
      have HL2 : Hid (wr.ownsRow (w.heap.size + 1) 9 1 _ x.chain.l.length (strC (x.chain.l.map encHo))) := Lib.hid (by have := HO.out; rwa [List.take_length] at this)
      obtain ⟨A', c', hv⟩ := ownsRow_form HL2.out
      subst hv
      have hcl := HC5.out wr HB.out
      clear b0 b1 b2 b3 b4
      obtain ⟨-, b0, b1, b2, b3, b4⟩ := hcl
      have HC6 : Hid (∀ w1, Below wr.heap.size wr w1 → Below wr.heap.size wr w1 ∧ w1.cell? ⟨w.heap.size, 0, none⟩ = some (.int .i64 x.slot) ∧ w1.cell? ⟨w.heap.size, 1, none⟩ = some (.string ⟨x.root.toArray⟩) ∧ w1.cell? ⟨w.heap.size, 2, none⟩ = some (.slice x.chunks.a x.chunks.l.length x.chunks.c) ∧ w1.cell? ⟨w.heap.size, 3, none⟩ = some (.slice x.proof.a x.proof.l.length x.proof.c)) :=
        Lib.hid (fun w1 hb => ⟨hb, (hb.cell (p := ⟨w.heap.size, 0, none⟩) (by show w.heap.size < _; omega)).trans b0, (hb.cell (p := ⟨w.heap.size, 1, none⟩) (by show w.heap.size < _; omega)).trans b1, (hb.cell (p := ⟨w.heap.size, 2, none⟩) (by show w.heap.size < _; omega)).trans b2, (hb.cell (p := ⟨w.heap.size, 3, none⟩) (by show w.heap.size < _; omega)).trans b3⟩)
      have HLB : Hid (∀ w1, Below wr.heap.size wr w1 → Below w.heap.size w w1) := Lib.hid (fun w1 hb => (bx_low HB.out).trans (hb.mono (by omega)))
      have HX0 : Hid (∀ (w1 : World) (g : Nat) (R : Prop), (Below wr.heap.size wr ((w1.alloc (.cells #[.int .i64 x.slot] 3)).drew) ∧ R) → w1.heap.size = g → Calls Tryd.prog 38 #[.slice (some ⟨g, 0, none⟩) 1 1] ((w1.alloc (.cells #[.int .i64 x.slot] 3)).drew) (GivesB wr (putInts [x.slot]))) :=
        Lib.hid (fun w1 g _ hb hg => givesB_int [x.slot] (fun A c W hr => refPutInts_any A c _ W hr (by simp) (by simpa [List.forall_mem_cons] using hI)) hb.1 hg)
      have HX1 : Hid (∀ (t : List UInt8) (w1 : World) (R : Prop), t.length ≤ 70368744177664 → (Below wr.heap.size wr w1 ∧ R) → Calls Tryd.prog 39 #[.string ⟨t.toArray⟩] w1 (GivesB wr (putStr t))) :=
        Lib.hid (fun t w1 _ ht hb => givesB_of hb.1 (refPutString_any t ht w1))
      have HX2 : Hid (∀ (w1 : World) (R : Prop), (Below wr.heap.size wr w1 ∧ R) → Calls Tryd.prog 41 #[.slice x.chunks.a x.chunks.l.length x.chunks.c] w1 (GivesB wr (putList x.chunks.l))) :=
        Lib.hid (fun w1 _ hb => givesB_of hb.1 (HN.out w1 (HLB.out w1 hb.1)))
      have HX3 : Hid (∀ (w1 : World) (R : Prop), (Below wr.heap.size wr w1 ∧ R) → Calls Tryd.prog 66 #[.slice x.proof.a x.proof.l.length x.proof.c] w1 (GivesStrsB wr x.proof.l.length (x.proof.l.map encSg))) :=
        Lib.hid (fun w1 _ hb => givesB_strs hb.1 (HK.out w1 (HLB.out w1 hb.1)) (by simp))
      have HX4 : Hid (∀ (w1 : World) (R : Prop) (A : Option Addr) (c : Nat), (Below wr.heap.size wr w1 ∧ R) → Rd w1 1 A x.proof.l.length (strC (x.proof.l.map encSg)) → Calls Tryd.prog 41 #[.slice A x.proof.l.length c] w1 (GivesB wr (putList (x.proof.l.map encSg)))) :=
        Lib.hid (fun w1 _ A c hb hr => givesB_of hb.1 (HL.out w1 A c hr))
      have HX5 : Hid (∀ (w1 : World) (R : Prop), (Below wr.heap.size wr w1 ∧ R) → Calls Tryd.prog 41 #[.slice A' x.chain.l.length c'] w1 (GivesB wr (putList (x.chain.l.map encHo)))) :=
        Lib.hid (fun w1 _ hb => givesB_of hb.1 (HM.out w1 _ _ ((Rd.own HL2.out).below hb.1)))
      go_wp2_with fail
      go_region_held3 (fun w1 => Below wr.heap.size wr w1 ∧ w1.cell? ⟨w.heap.size, 0, none⟩ = some (.int .i64 x.slot) ∧ w1.cell? ⟨w.heap.size, 1, none⟩ = some (.string ⟨x.root.toArray⟩) ∧ w1.cell? ⟨w.heap.size, 2, none⟩ = some (.slice x.chunks.a x.chunks.l.length x.chunks.c) ∧ w1.cell? ⟨w.heap.size, 3, none⟩ = some (.slice x.proof.a x.proof.l.length x.proof.c))
        (first | exact HC6.out _ (Below.refl _ _).drew | exact HC6.out _ (Below.alloc (‹Below _ _ _ ∧ _›).1 (Below.size (‹Below _ _ _ ∧ _›).1) _) | exact HC6.out _ ‹Below wr.heap.size wr _›)
        (first
          | (go_at_call 38; refine (HX0.out _ _ _ (by assumption) (by simp)).mono ?_; rintro e w2 ⟨rfl, c2⟩)
          | (go_at_call 39; refine (HX1.out _ _ _ (by omega) (by assumption)).mono ?_; rintro e w3 ⟨rfl, c3⟩)
          | (go_at_call 66; refine (HX3.out _ _ (by assumption)).mono ?_; rintro e w5 ⟨A5, c5, rfl, r5, d5⟩)
          | (go_at_call_of 41 (Value.slice x.chunks.a x.chunks.l.length x.chunks.c); refine (HX2.out _ _ (by assumption)).mono ?_; rintro e w4 ⟨rfl, c4⟩)
          | (go_at_call_of 41 (Value.slice A' x.chain.l.length c'); refine (HX5.out _ _ (by assumption)).mono ?_; rintro e w7 ⟨rfl, c7⟩)
          | (go_at_call 41; refine (HX4.out _ _ _ _ (by assumption) ?_).mono ?_; assumption; rintro e w6 ⟨rfl, c6⟩))
      all_goals
        go_wp2_with fail
        go_ret
        exact ret_st (by rfl) (HLB.out _ ‹_›)
end Go.Proofs.YtoehakekjlebdaaDoor
