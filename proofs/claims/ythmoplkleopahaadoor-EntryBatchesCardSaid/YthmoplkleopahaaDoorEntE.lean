/- The contracts of entry.value, Encode, Noop. -/
import Derived.Test.YthmoplkleopahaaDoorEntD
namespace Go.Proofs.YthmoplkleopahaaDoor
open Go.RowKit

set_option maxRecDepth 100000 in
set_option maxHeartbeats 1000000 in
theorem value_join (cfg : Int) (rs : List Rq) (A : Option Addr) (c : Nat) (w : World) (he : Env w) (hi : I64 cfg) :
    Calls Tryd.prog 31 #[.agg #[.int .i64 2, .int .i64 cfg, .slice A rs.length c]] w (RetStr (valE ⟨2, cfg, rs⟩) w) := by
  have B0 := Lib.hid (below_new w (.cells #[.int .i64 2, .int .i64 cfg, .slice A rs.length c] 24))
  have HI := Lib.hid (itoa_any cfg hi.1 hi.2 _ (he.below B0.out))
  have hl := hi.itoa
  have HP : Hid (∀ (w1 : World), Calls Tryd.prog 45 #[.slice (some ⟨w1.heap.size, 0, none⟩) 2 2] (w1.alloc (.cells #[.string ⟨#[106, 111, 105, 110]⟩, .string ⟨(Lib.itoa cfg).toArray⟩] 9)) (RetStr (valE ⟨2, cfg, rs⟩) (w1.alloc (.cells #[.string ⟨#[106, 111, 105, 110]⟩, .string ⟨(Lib.itoa cfg).toArray⟩] 9)))) := Lib.hid (fun w1 => by
    have h := putList_any (some ⟨w1.heap.size, 0, none⟩) 2 [wJoin, Lib.itoa cfg] _ (rd_new w1 1 2 (strC [wJoin, Lib.itoa cfg]) 9 rfl) (by simp) (by simp only [tot_cons, wJoin, List.length_cons, List.length_nil]; simp only [tot, List.map_nil, List.sum_nil]; omega)
    unfold valE
    rw [strs_join]
    exact h)
  clear he hl hi
  go_enter Tryd.func31, Tryd.ntmps31
  go_wp2_with fail
  refine HI.out.mono ?_
  rintro e w1 ⟨rfl, b1⟩
  have B1 := Lib.hid (bon B0.out b1)
  clear b1
  go_wp2_with fail
  refine (HP.out _).mono ?_
  rintro e w2 ⟨rfl, b2⟩
  go_wp2_with fail
  go_ret
  exact ret_st rfl (bon (B1.out.alloc B1.out.size _) b2)
set_option maxRecDepth 100000 in
set_option maxHeartbeats 1000000 in
theorem value_finish (cfg : Int) (rs : List Rq) (A : Option Addr) (c : Nat) (w : World) :
    Calls Tryd.prog 31 #[.agg #[.int .i64 3, .int .i64 cfg, .slice A rs.length c]] w (RetStr (valE ⟨3, cfg, rs⟩) w) := by
  have B0 := Lib.hid (below_new w (.cells #[.int .i64 3, .int .i64 cfg, .slice A rs.length c] 24))
  have HP : Hid (∀ (w1 : World) (g : Nat), w1.heap.size = g → Calls Tryd.prog 45 #[.slice (some ⟨g, 0, none⟩) 1 1] (w1.alloc (.cells #[.string ⟨#[102, 105, 110, 105, 115, 104]⟩] 9)) (RetStr (valE ⟨3, cfg, rs⟩) (w1.alloc (.cells #[.string ⟨#[102, 105, 110, 105, 115, 104]⟩] 9)))) := Lib.hid (fun w1 g hg => by
    subst hg
    have h := putList_any (some ⟨w1.heap.size, 0, none⟩) 1 [wFinish] _ (rd_new w1 1 1 (strC [wFinish]) 9 rfl) (by simp) (by simp [tot, wFinish])
    unfold valE
    rw [strs_finish]
    exact h)
  go_enter Tryd.func31, Tryd.ntmps31
  go_wp2_with fail
  refine (HP.out _ _ (by simp)).mono ?_
  rintro e w2 ⟨rfl, b2⟩
  go_wp2_with fail
  go_ret
  exact ret_st rfl (bon (B0.out.alloc (by simp) _) b2)
theorem value_any (kind cfg : Int) (rs : List Rq) (A : Option Addr) (c : Nat) (w : World) (he : Env w) (h : RqIn w A c rs) (hn : rs.length ≤ 1000) (hok : RqsOk rs) (hi : I64 cfg) :
    Calls Tryd.prog 31 #[.agg #[.int .i64 kind, .int .i64 cfg, .slice A rs.length c]] w (RetStr (valE ⟨kind, cfg, rs⟩) w) := by
  by_cases h2 : kind = 2
  · subst h2; exact value_join cfg rs A c w he hi
  · by_cases h3 : kind = 3
    · subst h3; exact value_finish cfg rs A c w
    · exact value_batch kind cfg rs A c w he h hn hok h2 h3
/-- what Encode returns -/
def encE (e : En) : List UInt8 := if vEn e = 0 then valE e else []
def RetStrErr (l : List UInt8) (n : Int) (w : World) (e : Ending) (w' : World) : Prop := e = .returned (.tuple #[.string ⟨l.toArray⟩, .int .i64 n]) ∧ Below w.heap.size w w'
theorem ret_se {l l' : List UInt8} {n m : Int} {w w' : World} (h : l = l') (hn : n = m) (hb : Below w.heap.size w w') : RetStrErr l n w (.returned (.tuple #[.string ⟨l'.toArray⟩, .int .i64 m])) w' := ⟨by rw [h, hn], hb⟩
set_option maxRecDepth 100000 in
set_option maxHeartbeats 1000000 in
theorem enEncode_any (kind cfg : Int) (rs : List Rq) (A : Option Addr) (c : Nat) (w : World) (he : Env w) (h : RqIn w A c rs) (hn : rs.length ≤ 1000) (hok : RqsOk rs) (hi : I64 cfg) :
    Calls Tryd.prog 13 #[.agg #[.int .i64 kind, .int .i64 cfg, .slice A rs.length c]] w (RetStrErr (encE ⟨kind, cfg, rs⟩) (vEn ⟨kind, cfg, rs⟩) w) := by
  have B0 := Lib.hid (bx_new w [.int .i64 kind, .int .i64 cfg, .slice A rs.length c] 24)
  have HV := Lib.hid (enValid_any kind cfg rs A c _ (h.below (bx_low B0.out)))
  have HC : Hid (∀ w1, Bx w [.int .i64 kind, .int .i64 cfg, .slice A rs.length c] 24 w1 → w1.cell? ⟨w.heap.size, 0, none⟩ = some (.int .i64 kind) ∧ w1.cell? ⟨w.heap.size, 1, none⟩ = some (.int .i64 cfg) ∧ w1.cell? ⟨w.heap.size, 2, none⟩ = some (.slice A rs.length c)) :=
    Lib.hid (fun w1 hb => ⟨bx_cell hb 0 _ rfl, bx_cell hb 1 _ rfl, bx_cell hb 2 _ rfl⟩)
  by_cases h0 : vEn ⟨kind, cfg, rs⟩ = 0
  · have HY : Hid (encE ⟨kind, cfg, rs⟩ = valE ⟨kind, cfg, rs⟩) := Lib.hid (by unfold encE; rw [if_pos h0])
    have HX : Hid (∀ w1, Bx w [.int .i64 kind, .int .i64 cfg, .slice A rs.length c] 24 w1 → Calls Tryd.prog 31 #[.agg #[.int .i64 kind, .int .i64 cfg, .slice A rs.length c]] w1 (RetStr (valE ⟨kind, cfg, rs⟩) w1)) :=
      Lib.hid (fun w1 hb => value_any kind cfg rs A c w1 (he.below (bx_low hb)) (h.below (bx_low hb)) hn hok hi)
    rw [h0] at HV ⊢
    clear he h hn hok hi h0
    go_enter Tryd.func13, Tryd.ntmps13
    go_wp2_with fail
    refine HV.out.mono ?_
    rintro e w1 ⟨rfl, b1⟩
    have B1 := Lib.hid (bx_on B0.out b1)
    obtain ⟨c0, c1, c2⟩ := HC.out _ B1.out
    clear b1
    go_wp2_with fail
    refine (HX.out _ B1.out).mono ?_
    rintro e w2 ⟨rfl, b2⟩
    go_wp2_with fail
    go_ret2
    exact ret_se HY.out rfl (bx_low (bx_on B1.out b2))
  · have HY : Hid (encE ⟨kind, cfg, rs⟩ = []) := Lib.hid (by unfold encE; rw [if_neg h0])
    generalize vEn ⟨kind, cfg, rs⟩ = v at HV h0 ⊢
    have q1 : (v == 0) = false := by simpa using h0
    have q2 : (v != 0) = true := by simpa using h0
    clear he h hn hok hi h0
    go_enter Tryd.func13, Tryd.ntmps13
    go_wp2_with fail
    refine HV.out.mono ?_
    rintro e w1 ⟨rfl, b1⟩
    have B1 := Lib.hid (bx_on B0.out b1)
    clear b1
    go_wp2_with fail
    go_ret2
    exact ret_se (l' := []) HY.out rfl (bx_low B1.out)
def noop : En := ⟨1, 0, []⟩
set_option maxRecDepth 100000 in
set_option maxHeartbeats 1000000 in
theorem noop_any (w : World) (he : Env w) : Calls Tryd.prog 30 #[] w (RetStr (valE noop) w) := by
  have HX := Lib.hid (value_any 1 0 [] none 0 w he ⟨Rd.nil _ _ _, by simp, by simp, by simp, by simp⟩ (by simp) (by intro r hr; simp at hr) ⟨by decide, by decide⟩)
  clear he
  go_enter Tryd.func30, Tryd.ntmps30
  go_wp2_with fail
  refine HX.out.mono ?_
  rintro e w2 ⟨rfl, b2⟩
  go_wp2_with fail
  go_ret
  exact ret_st rfl b2
end Go.Proofs.YthmoplkleopahaaDoor
