/- The contracts of the reference: requests, Requests, Equal. -/
import Derived.Test.YthmoplkleopahaaDoorRefA
import Derived.Laws.StructEq
namespace Go.Proofs.YthmoplkleopahaaDoor
open Go.RowKit

set_option maxRecDepth 100000 in
set_option maxHeartbeats 2000000 in
theorem refRequests_any (A : Option Addr) (c : Nat) (l : List Rq) (w : World) (h : RqIn w A c l) :
    Calls Tryd.prog 34 #[.slice A l.length c] w (RetErr (vRqs [] l) w) := by
  have HR := Lib.hid h.rd
  have HOp := Lib.hid h.op
  have hn := h.few
  have hc := h.cap
  have hcc := h.big
  clear h
  go_enter Tryd.func34, Tryd.ntmps34
  go_wp2_with fail
  go_loopw [3] (fun i wr => ∃ k : Nat, i = .int .i64 k ∧ k ≤ l.length ∧ vRqs [] l = vRqs (l.take k) (l.drop k) ∧ Below w.heap.size w wr) (fun i _ => l.length - (intOf i).toNat)
  case atStart => exact ⟨0, rfl, by omega, rfl, Below.refl _ _⟩
  case round =>
    obtain ⟨k, rfl, hk, hv, hb⟩ := hrel
    have HB := Lib.hid hb
    have HV := Lib.hid hv
    clear hb hv
    by_cases hlt : k < l.length
    · have i0 : (0 : Int) ≤ (k : Int) := by omega
      have i1 : (k : Int) < (l.length : Int) := by omega
      have i2 : (k : Int) ≤ (c : Int) := by omega
      have i3 : k ≤ c := by omega
      have HT := Lib.hid (HR.out.take rqC_len (Nat.le_of_lt hlt))
      obtain ⟨g, o, rfl, hg, hcell⟩ := HR.out.at rqC_len (by omega) hlt
      have HC : Hid (∀ W, Below w.heap.size w W → W.cell? ⟨g, o + k * 3, none⟩ = some (.int .i64 l[k].client) ∧ W.cell? ⟨g, o + k * 3 + 1, none⟩ = some (.int .i64 l[k].number) ∧ W.cell? ⟨g, o + k * 3 + 2, none⟩ = some (.string ⟨l[k].op.toArray⟩)) :=
        Lib.hid (fun W hW => ⟨by have := hcell W hW 0 _ rfl; simpa using this, hcell W hW 1 _ rfl, hcell W hW 2 _ rfl⟩)
      obtain ⟨a0, a1, a2⟩ := HC.out wr HB.out
      clear hcell
      have HV1 := Lib.hid (HV.out.trans (vRqs_at l k hlt))
      have HQ := Lib.hid (vRq_one (l.take k) l[k])
      have hop := HOp.out l[k] (List.getElem_mem hlt)
      have HO1 := Lib.hid (refRequest_any l[k] wr hop)
      by_cases h1 : vOne l[k] = 0
      · rw [h1] at HO1
        have HI : Hid (∀ W, Below w.heap.size w W → Calls Tryd.prog 44 #[.slice (some ⟨g, o, none⟩) k c, .agg #[.int .i64 l[k].client, .int .i64 l[k].number, .string ⟨l[k].op.toArray⟩]] W fun e w' => e = .returned (.bool (inB (l.take k) l[k])) ∧ Below w.heap.size w w') := Lib.hid (fun W hb => by
          have hl : (l.take k).length = k := by simp; omega
          have h := refIn_any (some ⟨g, o, none⟩) c (l.take k) l[k] W (by rw [hl]; exact HT.out.below hb) (by rw [hl]; omega)
          rw [hl] at h
          exact h.mono fun _ _ ⟨a, b⟩ => ⟨a, bon hb b⟩)
        go_wp2_with fail
        refine HO1.out.mono ?_
        rintro e w2 ⟨rfl, b2⟩
        have hb2 := bon HB.out b2
        obtain ⟨c0, c1, c2⟩ := HC.out w2 hb2
        clear b2 a0 a1 a2
        cases hin : inB (l.take k) l[k] with
        | true =>
          have HY : Hid (vRqs [] l = 5) := Lib.hid (by rw [HV1.out, HQ.out, h1, hin]; simp)
          rw [hin] at HI
          clear hin h1
          go_wp2_with fail
          go_region_held3 (fun W => W.cell? ⟨g, o + k * 3, none⟩ = some (.int .i64 l[k].client) ∧ W.cell? ⟨g, o + k * 3 + 1, none⟩ = some (.int .i64 l[k].number) ∧ W.cell? ⟨g, o + k * 3 + 2, none⟩ = some (.string ⟨l[k].op.toArray⟩))
            (first | exact HC.out _ (Below.drew ‹Below w.heap.size w _›) | exact HC.out _ ‹Below w.heap.size w _›)
            (first | (go_at_call 44; refine (HI.out _ (by first | assumption | exact Below.drew ‹Below w.heap.size w _›)).mono ?_; rintro e w3 ⟨rfl, b3⟩))
          all_goals
            go_wp2_with fail
            go_ret
            exact ret_er HY.out b3
        | false =>
          have HY : Hid (vRqs [] l = vRqs (l.take (k + 1)) (l.drop (k + 1))) := Lib.hid (by
            have h0 : vRq (l.take k) l[k] = 0 := by rw [HQ.out, h1, hin]; simp
            rw [HV1.out, if_pos h0])
          rw [hin] at HI
          clear hin h1
          go_wp2_with fail
          go_region_held3 (fun W => W.cell? ⟨g, o + k * 3, none⟩ = some (.int .i64 l[k].client) ∧ W.cell? ⟨g, o + k * 3 + 1, none⟩ = some (.int .i64 l[k].number) ∧ W.cell? ⟨g, o + k * 3 + 2, none⟩ = some (.string ⟨l[k].op.toArray⟩))
            (first | exact HC.out _ (Below.drew ‹Below w.heap.size w _›) | exact HC.out _ ‹Below w.heap.size w _›)
            (first | (go_at_call 44; refine (HI.out _ (by first | assumption | exact Below.drew ‹Below w.heap.size w _›)).mono ?_; rintro e w3 ⟨rfl, b3⟩))
          all_goals
            have B3 := Lib.hid b3
            clear b3 hb2 c0 c1 c2
            go_wp2_with fail
            go_roundw
            case rel => exact ⟨k + 1, by go_num, by omega, HY.out, B3.out⟩
            case measure => simp [intOf]; omega
      · have HY : Hid (vRqs [] l = vOne l[k]) := Lib.hid (by
          have h0 : vRq (l.take k) l[k] = vOne l[k] := by rw [HQ.out, if_pos h1]
          rw [HV1.out, h0, if_neg h1])
        generalize vOne l[k] = v at HO1 HY h1
        have q1 : (v == 0) = false := by simpa using h1
        have q2 : (v != 0) = true := by simpa using h1
        clear h1 HQ HV1
        go_wp2_with fail
        refine HO1.out.mono ?_
        rintro e w2 ⟨rfl, b2⟩
        go_wp2_with fail
        go_ret
        exact ret_er HY.out (bon HB.out b2)
    · have HY : Hid (vRqs [] l = 0) := Lib.hid (by rw [HV.out, List.drop_eq_nil_of_le (by omega), vRqs])
      go_wp2_with fail
      go_ret
      exact ret_er HY.out HB.out
theorem dN (w : World) (a b : Nat) : (w.drewN a).drewN b = w.drewN (a + b) := by
  first | rfl | simp [World.drewN, Nat.add_assoc]
theorem eqInRq (x y : Rq) (w : World) : (Op.equalIn 10000 42 (.agg #[.int .i64 x.client, .int .i64 x.number, .string ⟨x.op.toArray⟩]) (.agg #[.int .i64 y.client, .int .i64 y.number, .string ⟨y.op.toArray⟩])).run Tryd.prog w = .ok (decide (x = y)) w := by
  have u3 := Tryd.underlying3
  have u9 := Tryd.underlying9
  have a3 := Tryd.isAgg3
  have z3 := Tryd.sizeOf3
  have a9 := Tryd.isAgg9
  have z9 := Tryd.sizeOf9
  have hS : Tryd.prog.underlying 42 = some (.struct (Tryd.prog.fieldsOf 42)) := by kernel_rfl
  have hp : Tryd.prog.stoodInHeld 42 = false := by kernel_rfl
  rw [show (10000 : Nat) = 9999 + 1 from rfl, run_equalIn_struct w 9999 42 _ _ hS hp]
  simp only [Program.fieldsOf, Tryd.underlying42]
  go_simp
  obtain ⟨a, b, c⟩ := x
  obtain ⟨a', b', c'⟩ := y
  by_cases h1 : a = a' <;> by_cases h2 : b = b' <;> by_cases h3 : c = c' <;> simp [h1, h2, h3]
theorem neqRq (x y : Rq) (w : World) : (binOp .neq 42 (.agg #[.int .i64 x.client, .int .i64 x.number, .string ⟨x.op.toArray⟩]) (.agg #[.int .i64 y.client, .int .i64 y.number, .string ⟨y.op.toArray⟩])).run Tryd.prog w = .ok (.bool (!decide (x = y))) w := by
  have h := eqInRq x y w
  simp only [binOp]
  simp [Op.equal, Op.maxDepth, h]
set_option maxRecDepth 100000 in
set_option maxHeartbeats 1000000 in
theorem requestsEq_any (A B : Option Addr) (c d : Nat) (l m : List Rq) (w : World) (h : RqIn w A c l) (h2 : RqIn w B d m) :
    Calls Tryd.prog 25 #[.slice A l.length c, .slice B m.length d] w fun e w' => e = .returned (.bool (decide (l = m))) ∧ ∃ q, w' = w.drewN q := by
  have HR := Lib.hid h.rd
  have HS := Lib.hid h2.rd
  have hf := h.few
  have hf2 := h2.few
  clear h h2
  by_cases hlen : l.length = m.length
  · have hlb : ((l.length : Int) == (m.length : Int)) = true := by rw [beq_iff_eq]; omega
    have hlb2 : ((l.length : Int) != (m.length : Int)) = false := by simp; omega
    have HLen := Lib.hid hlen
    clear hlen
    go_enter Tryd.func25, Tryd.ntmps25
    go_wp2_with fail
    go_loopw [5] (fun i wr => ∃ k q : Nat, i = .int .i64 k ∧ k ≤ l.length ∧ l.take k = m.take k ∧ wr = w.drewN q) (fun i _ => l.length - (intOf i).toNat)
    case atStart => exact ⟨0, 0, rfl, by omega, rfl, rfl⟩
    case round =>
      obtain ⟨k, q, rfl, hk, htk, rfl⟩ := hrel
      have HT := Lib.hid htk
      clear htk
      have hle := HLen.out
      by_cases hlt : k < l.length
      · have i0 : (0 : Int) ≤ (k : Int) := by omega
        have i1 : (k : Int) < (l.length : Int) := by omega
        have hlt2 : k < m.length := by omega
        have i2 : (k : Int) < (m.length : Int) := by omega
        obtain ⟨g, o, rfl, hg, hcc⟩ := HR.out.at rqC_len (by omega) hlt
        obtain ⟨g2, o2, rfl, hg2, hcc2⟩ := HS.out.at rqC_len (by omega) hlt2
        have a0 := hcc w (Below.refl _ _) 0 _ rfl
        have a1 := hcc w (Below.refl _ _) 1 _ rfl
        have a2 := hcc w (Below.refl _ _) 2 _ rfl
        have b0 := hcc2 w (Below.refl _ _) 0 _ rfl
        have b1 := hcc2 w (Below.refl _ _) 1 _ rfl
        have b2 := hcc2 w (Below.refl _ _) 2 _ rfl
        simp only [Nat.add_zero] at a0 b0
        have hn := neqRq l[k] m[k]
        clear hcc hcc2 hle
        by_cases hx : l[k] = m[k]
        · have HY : Hid (l.take (k + 1) = m.take (k + 1)) := Lib.hid (by rw [List.take_succ_eq_append_getElem hlt, List.take_succ_eq_append_getElem hlt2, HT.out, hx])
          rw [decide_eq_true hx] at hn
          clear hx
          go_wp2_with fail
          go_quiet (fail)
          all_goals
            go_wp2_with fail
            go_roundw
            case rel => exact ⟨k + 1, q + nq, by go_num, by omega, HY.out, by first | rfl | exact dN _ _ _⟩
            case measure => simp [intOf]; omega
        · have HY : Hid (decide (l = m) = false) := Lib.hid (by
            rw [decide_eq_false_iff_not]
            rintro rfl
            exact hx rfl)
          rw [decide_eq_false hx] at hn
          clear hx
          go_wp2_with fail
          go_quiet (fail)
          all_goals
            go_wp2_with fail
            go_ret
            exact ⟨ret_bool HY.out.symm, q + nq, by first | rfl | exact dN _ _ _⟩
      · have HY : Hid (decide (l = m) = true) := Lib.hid (by
          rw [decide_eq_true_eq]
          have := HT.out
          rwa [List.take_of_length_le (by omega), List.take_of_length_le (by omega)] at this)
        go_wp2_with fail
        go_ret
        exact ⟨ret_bool HY.out.symm, q, rfl⟩
  · have hlb : ((l.length : Int) == (m.length : Int)) = false := by rw [beq_eq_false_iff_ne]; omega
    have hlb2 : ((l.length : Int) != (m.length : Int)) = true := by simp; omega
    have HY : Hid (decide (l = m) = false) := Lib.hid (by
      rw [decide_eq_false_iff_not]
      rintro rfl
      exact hlen rfl)
    clear hlen
    go_enter Tryd.func25, Tryd.ntmps25
    go_wp2_with fail
    go_ret
    exact ⟨ret_bool HY.out.symm, 0, rfl⟩
/-- entries with rows in memory -/
def enEq (k c : Int) (l : List Rq) (k' c' : Int) (m : List Rq) : Bool := (k == k') && (c == c') && decide (l = m)
set_option maxRecDepth 100000 in
set_option maxHeartbeats 1000000 in
theorem equal_any (k cf k' cf' : Int) (A B : Option Addr) (c d : Nat) (l m : List Rq) (w : World) (h : RqIn w A c l) (h2 : RqIn w B d m) :
    Calls Tryd.prog 18 #[.agg #[.int .i64 k, .int .i64 cf, .slice A l.length c], .agg #[.int .i64 k', .int .i64 cf', .slice B m.length d]] w (RetBool (enEq k cf l k' cf' m) w) := by
  have B0 : Hid (Below w.heap.size w ((w.alloc (.cells #[.int .i64 k, .int .i64 cf, .slice A l.length c] 24)).alloc (.cells #[.int .i64 k', .int .i64 cf', .slice B m.length d] 24))) :=
    Lib.hid ((below_new w _).alloc (by simp) _)
  have HR := Lib.hid (requestsEq_any A B c d l m _ (h.below B0.out) (h2.below B0.out))
  clear h h2
  cases h1 : (k == k') with
  | false =>
    have HY : Hid (enEq k cf l k' cf' m = false) := Lib.hid (by unfold enEq; rw [h1]; rfl)
    go_enter Tryd.func18, Tryd.ntmps18
    go_wp2_with fail
    go_ret
    exact ret_bl HY.out B0.out
  | true =>
    cases h2 : (cf == cf') with
    | false =>
      have HY : Hid (enEq k cf l k' cf' m = false) := Lib.hid (by unfold enEq; rw [h1, h2]; rfl)
      go_enter Tryd.func18, Tryd.ntmps18
      go_wp2_with fail
      go_ret
      exact ret_bl HY.out B0.out
    | true =>
      have HY : Hid (enEq k cf l k' cf' m = decide (l = m)) := Lib.hid (by unfold enEq; rw [h1, h2]; simp)
      generalize decide (l = m) = v at HR HY
      go_enter Tryd.func18, Tryd.ntmps18
      go_wp2_with fail
      refine HR.out.mono ?_
      rintro e w' ⟨rfl, q, rfl⟩
      go_wp2_with fail
      go_ret
      exact ret_bl HY.out (bdN B0.out q)
end Go.Proofs.YthmoplkleopahaaDoor
