/- Clones; what See keeps. -/
import Derived.Test.YtikpcebhcnjkhaaGreatDoorSPl
import Derived.Test.YtikpcebhcnjkhaaGreatDoorSAdvSl
namespace Go.Proofs.YtikpcebhcnjkhaaGreatDoor
open Go.RowKit Q40
theorem stC_one (l : List St) : ∀ u ∈ l.flatMap stC, u.oneCell' = true := by
 intro u hu
 obtain ⟨r, _, hr⟩ := List.mem_flatMap.1 hu
 simp only [stC, Sl.v, List.mem_cons, List.not_mem_nil, or_false] at hr
 rcases hr with rfl | rfl | rfl | rfl | rfl | rfl | rfl | rfl | rfl | rfl | rfl | rfl <;> rfl
theorem strV_one (l : List (List UInt8)) : ∀ u ∈ l.flatMap strV, u.oneCell' = true := by
 intro u hu
 obtain ⟨r, _, hr⟩ := List.mem_flatMap.1 hu
 simp only [strV, List.mem_cons, List.not_mem_nil, or_false] at hr
 rw [hr]; rfl
theorem strV_flat (l : List (List UInt8)) : l.flatMap strV = strC l := by
 induction l with
 | nil => rfl
 | cons x r ih => rw [List.flatMap_cons, ih]; rfl
theorem infoSt12 : (Tryz.prog.info? 62).map (fun i => (i.zero, i.size, i.bytes)) = some (some (.agg #[.int .i64 0, .int .i64 0, .int .i64 0, .int .i64 0, .string ⟨#[]⟩, .slice none 0 0, .int .i64 0, .int .i64 0, .int .i64 0, .int .i64 0, .string ⟨#[]⟩, .string ⟨#[]⟩]), 12, 136) := by kernel_rfl
theorem elemSt : Elem Tryz.prog 43 62 12 136 := Elem.of Tryz.underlying43 infoSt12 rfl (by decide)
def OwnSts (l : List St) (w : World) (e : Ending) (w' : World) : Prop := ∃ A c, e = .returned (.slice A l.length c) ∧ w'.ownsRow w.heap.size 62 12 (.slice A l.length c) l.length (l.flatMap stC) ∧ Below w.heap.size w w'
theorem OwnSts.ret {l : List St} {w w' : World} {n c : Nat} {A : Option Addr} (hn : n = l.length) (h : w'.ownsRow w.heap.size 62 12 (.slice A n c) n (l.flatMap stC)) (hb : Below w.heap.size w w') : OwnSts l w (.returned (.slice A n c)) w' := by
 subst hn; exact ⟨A, c, rfl, h, hb⟩
set_option maxRecDepth 100000 in
set_option maxHeartbeats 1000000 in
theorem cloneSt_any (A : Option Addr) (c : Nat) (l : List St) (w : World) (h : Rd w 12 A l.length (l.flatMap stC)) (hn : l.length ≤ 1048576) :
    Calls Tryz.prog 17 #[.slice A l.length c] w (OwnSts l w) := by
 obtain ⟨i0, hi, hz0, hz1, hz2⟩ := info_parts infoSt12
 have HI := hD hi
 have HZ0 := hD hz0
 have HZ1 := hD hz1
 have HZ2 := hD hz2
 have HR := hD h
 have HOne := hD (stC_one l)
 have q22 : ∀ (w : World) (a : Option Addr) (n c n' c' : Nat), (binOp .eql 43 (.slice a n c) (.slice none n' c')).run Tryz.prog w = .ok (.bool a.isNone) w := fun w a n c n' c' => Lib.run_eql_slice_nil w _ _ a n c n' c' Tryz.underlying43
 clear hi hz0 hz1 hz2 h
 cases A with
 | none =>
  have hl : l.length = 0 := by
   by_cases hp : 0 < l.length
   · obtain ⟨b, o, e, _⟩ := HR.out.cells (by rw [flat_len stC 12 stC_len]; omega)
     simp at e
   · omega
  obtain rfl : l = [] := List.eq_nil_of_length_eq_zero hl
  clear hl
  go_enter Tryz.func17, Tryz.ntmps17
  go_wp2_with fail
  go_ret
  exact OwnSts.ret rfl (World.ownsRow_nil _ _ _ _) (Below.refl _ _)
 | some a =>
  have HO := hD (World.ownsRow_lit (base := w.heap.size) (e := 62) (size := 12) w #[] 0 (Nat.le_refl _) (by simp) rfl)
  have hnews : ∀ j u, (l.flatMap stC)[j]? = some u → (w.alloc (.cells #[] 62)).cell? (a.add j) = some u := fun j u hu => by
   have hj : j < (l.flatMap stC).length := (List.getElem?_eq_some_iff.1 hu).1
   obtain ⟨b, o, e, hb, hc⟩ := HR.out.cells (by omega)
   simp only [Option.some.injEq] at e
   subst e
   rw [add_plain']
   exact ((below_new w _).cell (p := ⟨b, o + j, none⟩) hb).trans (hc j u hu)
  have HN := hD hnews
  have HLen := hD (flat_len stC 12 stC_len l)
  clear hnews
  go_enter Tryz.func17, Tryz.ntmps17
  go_wp2_with (at_builtin; refine wpList_append_own _ rfl _ _ 43 rfl w.heap.size 62 i0 _ 12 136 Tryz.underlying43 HI.out HZ0.out HZ1.out HZ2.out rfl (by decide) _ 0 [] rfl HO.out a l.length c (l.flatMap stC) rfl HLen.out HN.out HOne.out (by simp [maxLen]; omega) (by omega) (by simp) ?_)
  intro v' w2 hown' hgrow _
  obtain ⟨A, c2, hv⟩ := ownsRow_form hown'
  subst hv
  have HO2 := hD hown'
  have HG2 := hD hgrow
  clear hown' hgrow
  go_wp2_with fail
  go_ret
  exact OwnSts.ret rfl HO2.out (below_grown (below_new w _) (by simp) HG2.out (fun g hg => by simp [Value.ownBlock] at hg; omega))
def OwnSvs (l : List (List UInt8)) (w : World) (e : Ending) (w' : World) : Prop := ∃ A c, e = .returned (.slice A l.length c) ∧ w'.ownsRow w.heap.size 9 1 (.slice A l.length c) l.length (l.flatMap strV) ∧ Below w.heap.size w w'
theorem OwnSvs.ret {l : List (List UInt8)} {w w' : World} {n c : Nat} {A : Option Addr} (hn : n = l.length) (h : w'.ownsRow w.heap.size 9 1 (.slice A n c) n (l.flatMap strV)) (hb : Below w.heap.size w w') : OwnSvs l w (.returned (.slice A n c)) w' := by
 subst hn; exact ⟨A, c, rfl, h, hb⟩
set_option maxRecDepth 100000 in
set_option maxHeartbeats 1000000 in
theorem cloneSv_any (A : Option Addr) (c : Nat) (l : List (List UInt8)) (w : World) (h : Rd w 1 A l.length (l.flatMap strV)) (hn : l.length ≤ 1048576) :
    Calls Tryz.prog 18 #[.slice A l.length c] w (OwnSvs l w) := by
 obtain ⟨i0, hi, hz0, hz1, hz2⟩ := info_parts infoS
 have HI := hD hi
 have HZ0 := hD hz0
 have HZ1 := hD hz1
 have HZ2 := hD hz2
 have HR := hD h
 have HOne := hD (strV_one l)
 have q22 : ∀ (w : World) (a : Option Addr) (n c n' c' : Nat), (binOp .eql 30 (.slice a n c) (.slice none n' c')).run Tryz.prog w = .ok (.bool a.isNone) w := fun w a n c n' c' => Lib.run_eql_slice_nil w _ _ a n c n' c' Tryz.underlying30
 clear hi hz0 hz1 hz2 h
 cases A with
 | none =>
  have hl : l.length = 0 := by
   by_cases hp : 0 < l.length
   · obtain ⟨b, o, e, _⟩ := HR.out.cells (by rw [flat_len strV 1 (fun _ => rfl)]; omega)
     simp at e
   · omega
  obtain rfl : l = [] := List.eq_nil_of_length_eq_zero hl
  clear hl
  go_enter Tryz.func18, Tryz.ntmps18
  go_wp2_with fail
  go_ret
  exact OwnSvs.ret rfl (World.ownsRow_nil _ _ _ _) (Below.refl _ _)
 | some a =>
  have HO := hD (World.ownsRow_lit (base := w.heap.size) (e := 9) (size := 1) w #[] 0 (Nat.le_refl _) (by simp) rfl)
  have hnews : ∀ j u, (l.flatMap strV)[j]? = some u → (w.alloc (.cells #[] 9)).cell? (a.add j) = some u := fun j u hu => by
   have hj : j < (l.flatMap strV).length := (List.getElem?_eq_some_iff.1 hu).1
   obtain ⟨b, o, e, hb, hc⟩ := HR.out.cells (by omega)
   simp only [Option.some.injEq] at e
   subst e
   rw [add_plain']
   exact ((below_new w _).cell (p := ⟨b, o + j, none⟩) hb).trans (hc j u hu)
  have HN := hD hnews
  have HLen := hD (flat_len strV 1 (fun _ => rfl) l)
  clear hnews
  go_enter Tryz.func18, Tryz.ntmps18
  go_wp2_with (at_builtin; refine wpList_append_own _ rfl _ _ 30 rfl w.heap.size 9 i0 _ 1 16 Tryz.underlying30 HI.out HZ0.out HZ1.out HZ2.out rfl (by decide) _ 0 [] rfl HO.out a l.length c (l.flatMap strV) rfl HLen.out HN.out HOne.out (by simp [maxLen]; omega) (by omega) (by simp) ?_)
  intro v' w2 hown' hgrow _
  obtain ⟨A, c2, hv⟩ := ownsRow_form hown'
  subst hv
  have HO2 := hD hown'
  have HG2 := hD hgrow
  clear hown' hgrow
  go_wp2_with fail
  go_ret
  exact OwnSvs.ret rfl HO2.out (below_grown (below_new w _) (by simp) HG2.out (fun g hg => by simp [Value.ownBlock] at hg; omega))
def seeSt (ss : List St) (x : St) : List St := if decide (ss.length < 60) && !(ss.any (sameSt x)) then ss ++ [x] else ss
noncomputable def seeF (p : List St × List (List UInt8)) (x : St) : List St × List (List UInt8) := (seeSt p.1 x, learnV p.2 x.lock)
noncomputable def seeV (vs : List (List UInt8)) (d : De) : List (List UInt8) := learnV vs d.value
noncomputable def seeAll (ss : List St) (vs : List (List UInt8)) (m : Ms) : List St × List (List UInt8) := ((m.statuses.l.foldl seeF (ss, vs)).1, m.entries.l.foldl seeV (learnV (m.statuses.l.foldl seeF (ss, vs)).2 m.value))
theorem seeSt_len (ss : List St) (x : St) (h : ss.length ≤ 1048576) : (seeSt ss x).length ≤ 1048576 := by
 unfold seeSt
 split
 · rename_i h1
   simp only [Bool.and_eq_true, decide_eq_true_eq] at h1
   rw [List.length_append]; simp; omega
 · exact h
theorem learnV_len (vs : List (List UInt8)) (v : List UInt8) (h : vs.length ≤ 1048576) : (learnV vs v).length ≤ 1048576 := by
 unfold learnV
 split
 · rename_i h1
   simp only [Bool.and_eq_true, decide_eq_true_eq] at h1
   rw [List.length_append]; simp; omega
 · exact h
theorem seeSt_mem {ss : List St} {x y : St} (h : y ∈ seeSt ss x) : y ∈ ss ∨ y = x := by
 unfold seeSt at h
 split at h
 · rcases List.mem_append.1 h with h | h
   · exact .inl h
   · exact .inr (by simpa using h)
 · exact .inl h
theorem take_one {α β : Type} (f : β → α → β) (b : β) (l : List α) (k : Nat) (h : k < l.length) : (l.take (k + 1)).foldl f b = f ((l.take k).foldl f b) l[k] := by
 rw [List.take_succ_eq_append_getElem h, List.foldl_append]; rfl
section
variable {base b : Nat} {w w1 w2 : World}
theorem Vz.mv {g : Nat} {cs : List Value} (h : Vz w g cs) (k : Mv base b w w1) (hg : g < base) (hne : g ≠ b) : Vz w1 g cs where
 lt := Nat.lt_of_lt_of_le h.lt k.size
 cells j v hv := (k.cell (p := ⟨g, j, none⟩) hg hne).trans (h.cells j v hv)
 free j hj := by
  have h1 := h.free j hj
  unfold World.frozen? at h1 ⊢
  rw [k.block g hg hne]
  exact h1
end
structure Se (w : World) (m : Ms) (ss : List St) (vs : List (List UInt8)) (w' : World) : Prop where
 low : Below w.heap.size w w'
 st : Sn2 (w.heap.size + 3) w.heap.size ss vs w'
 msg : Vz w' (w.heap.size + 1) (msC m)
 res : Vz w' (w.heap.size + 2) [.slice none 0 0, .slice none 0 0]
theorem Se.below {w w1 w2 : World} {m : Ms} {ss : List St} {vs : List (List UInt8)} (h : Se w m ss vs w1) (k : Below w1.heap.size w1 w2) : Se w m ss vs w2 := ⟨bon h.low k, h.st.below k, h.msg.below k, h.res.below k⟩
theorem Se.mv {w w1 w2 : World} {m : Ms} {ss : List St} {vs vs' : List (List UInt8)} {ss' : List St} (h : Se w m ss vs w1) (k : Mv (w.heap.size + 3) w.heap.size w1 w2) (hs : Sn2 (w.heap.size + 3) w.heap.size ss' vs' w2) : Se w m ss' vs' w2 :=
 ⟨Mv.low h.low k (by omega) (Nat.le_refl _), hs, h.msg.mv k (by omega) (by omega), h.res.mv k (by omega) (by omega)⟩
end Go.Proofs.YtikpcebhcnjkhaaGreatDoor
