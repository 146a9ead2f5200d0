/- The contract of store.Parse. -/
import Derived.Test.YtepbbaifpckcpaaGreatDoorVPl
import Derived.Test.YtepbbaifpckcpaaGreatDoorVSd
namespace Go.Proofs.YtepbbaifpckcpaaGreatDoor
open Go.RowKit
open Go.Maps (Keyed)
def frmP (x : ByteArray × Bool × Bool × Bool) : Value := frmV x.1 x.2.1 x.2.2.1 x.2.2.2
theorem forms_entry {x : Int} {kl : Lit} {c : ByteArray × Bool × Bool × Bool} {y : DataW Unit × List MemPlace} (hkey : keyOf Tryz.prog 3 (.int .i64 x) = some kl) (hat : ∀ zd, formsD.atKey kl zd = y.1) (hy : formR (frmP c) = some y) :
    ∃ k : Nat, 1 ≤ k ∧ k ≤ 6 ∧ x = (k : Int) ∧ kl = .int .i64 (k : Int) ∧ c = (⟨(opWord k).toArray⟩, hasKey k, hasOld k, hasNew k) := by
 obtain ⟨x', ex, rfl, _⟩ := Maps.keyOf_int_inv Tryz.underlying3 hkey
 cases ex
 have hk : ∃ k : Nat, 1 ≤ k ∧ k ≤ 6 ∧ x = (k : Int) := by
  by_cases h1 : 1 ≤ x ∧ x ≤ 6
  · exact ⟨x.toNat, by omega, by omega, by omega⟩
  · exfalso
    have e : ∀ zd, formsD.atKey (.int .i64 x) zd = zd := fun zd => by
     simp only [formsD, DataW.atKey, List.find?_cons, List.find?_nil, same_int]
     rw [decide_eq_false (by omega : ¬ (1 : Int) = x), decide_eq_false (by omega : ¬ (2 : Int) = x), decide_eq_false (by omega : ¬ (3 : Int) = x), decide_eq_false (by omega : ¬ (4 : Int) = x), decide_eq_false (by omega : ¬ (5 : Int) = x), decide_eq_false (by omega : ¬ (6 : Int) = x)]
    have e1 := (hat .nil).trans (hat (.agg [])).symm
    rw [e, e] at e1
    cases e1
 obtain ⟨k, h1, h6, rfl⟩ := hk
 refine ⟨k, h1, h6, rfl, rfl, ?_⟩
 have e := (hat .nil).symm.trans (forms_at k h1 h6 .nil).1
 obtain ⟨s, a, b, d⟩ := c
 obtain ⟨y1, y2⟩ := y
 simp only at e
 subst e
 have h := formR_is hy
 simp only [frmP, frmV, Value.agg.injEq, Array.mk.injEq, List.cons.injEq, Value.string.injEq, Value.bool.injEq, and_true] at h
 obtain ⟨rfl, rfl, rfl, rfl⟩ := h
 rfl
theorem ranges_below {H : Type} {P : Program} {k : TypeId} {R : Value → Option (DataW H × List MemPlace)} {b r n : Nat} {D : DataW H} {left : Lit → Bool} {cnt : Nat} {w w' : World} (h : w.ranges P k R b r n D left cnt) (hb : Below w.heap.size w w') : w'.ranges P k R b r n D left cnt := by
 have h1 := h.owns.lt
 have h2 := h.lt
 obtain ⟨es, clock, since, seen, c0, q1, F, hs, hD, q2, rest⟩ := h
 exact ⟨es, clock, since, seen, c0, (hb.block b h1).trans q1, F, hs, hD, (hb.block r h2).trans q2, rest⟩
theorem wpList_next_forms (w : World) {ops : Array Oper} {rest : List Oper} {o : Oper} {a : Act} {Q : Exit → Act → World → Prop} (hg : o.guard = none) (it : Operand) (hop : o.op = Op.next it false) (b r : Nat) (left : Lit → Bool) (cnt : Nat)
    (hit : a.eval it = .pointer (some ⟨r, 0, none⟩)) (h : w.ranges Tryz.prog 3 formR b r 6 formsD left cnt)
    (hDone : Hid (∀ kl, left kl = false) → wpList Tryz.prog ops Q rest (a.put o.dst (.tuple #[.bool false])) w)
    (hMore : ∀ (k : Nat) (w' : World) (cnt' : Nat), Hid (1 ≤ k ∧ k ≤ 6 ∧ left (.int .i64 (k : Int)) = true ∧ w'.ranges Tryz.prog 3 formR b r 6 formsD (fun z => left z && !z.sameKey (.int .i64 (k : Int))) cnt' ∧ cnt' < cnt ∧ w.grownBy w' (some r) ∧ w'.heap.size = w.heap.size ∧
     (Instr.entry (.pointer (some ⟨r, 0, none⟩))).run Tryz.prog w' = .ok (.tuple #[.int .i64 (k : Int), .agg #[.string ⟨(opWord k).toArray⟩, .bool (hasKey k), .bool (hasOld k), .bool (hasNew k)]]) w') → wpList Tryz.prog ops Q rest (a.put o.dst (.tuple #[.bool true, .int .i64 (k : Int), .agg #[.string ⟨(opWord k).toArray⟩, .bool (hasKey k), .bool (hasOld k), .bool (hasNew k)]])) w') :
    wpList Tryz.prog ops Q (o :: rest) a w :=
 wpList_next_ranges w hg it hop 3 formsL formR (Value.int .i64) frmP (fun key kl hkey => by obtain ⟨x, rfl, _⟩ := Maps.keyOf_int_inv Tryz.underlying3 hkey; exact ⟨x, rfl⟩) (fun v y hv => formR_inv hv) b r 6 formsD left cnt hit h (fun _ hl => hDone (hD hl)) (fun x c kl y w' cnt' hkey hlk hv hat hrg hlt hgr hsz hen => by
  obtain ⟨k, h1, h6, rfl, rfl, rfl⟩ := forms_entry hkey hat hv
  exact hMore k w' cnt' (hD ⟨h1, h6, hlk, hrg, hlt, hgr, hsz, hen⟩))
theorem strs_new (w : World) (l : List (List UInt8)) : Vr (w.alloc (.cells (strC l).toArray 9)) w.heap.size (strC l) := Vr.new w (strC l) 9
theorem left_step {left : Lit → Bool} {s : List UInt8} {k : Nat} (h : ∀ j : Nat, 1 ≤ j → j ≤ 6 → left (.int .i64 (j : Int)) = false → kindOk j s = false) (hk : kindOk k s = false) :
    ∀ j : Nat, 1 ≤ j → j ≤ 6 → (fun z : Lit => left z && !z.sameKey (.int .i64 (k : Int))) (.int .i64 (j : Int)) = false → kindOk j s = false := fun j h1 h6 hj => by
 simp only [same_int, Bool.and_eq_false_iff, Bool.not_eq_false', decide_eq_true_eq] at hj
 rcases hj with hj | hj
 · exact h j h1 h6 hj
 · obtain rfl : j = k := by omega
   exact hk
theorem cut_len : ∀ s : List UInt8, ∀ x ∈ cut s, x.length ≤ s.length
 | [], x, hx => by simp only [cut, List.mem_singleton] at hx; subst hx; simp
 | b :: r, x, hx => by
  have ih := cut_len r
  obtain ⟨y, t, hc⟩ := cut_cons r
  rw [hc] at ih
  unfold cut at hx
  by_cases h : b = 32
  · rw [if_pos h, hc] at hx
    rcases List.mem_cons.1 hx with rfl | hx
    · simp
    · have := ih x hx
      simp only [List.length_cons]; omega
  · rw [if_neg h, hc] at hx
    rcases List.mem_cons.1 hx with rfl | hx
    · have := ih y (List.mem_cons_self ..)
      simp only [List.length_cons]; omega
    · have := ih x (List.mem_cons_of_mem _ hx)
      simp only [List.length_cons]; omega
theorem takeF_len {m : Nat} {r : List (List UInt8)} (h : ∀ y ∈ r, y.length ≤ m) (t : Bool) : (takeF t r).length ≤ m := by
 unfold takeF
 split
 · cases r with
   | nil => simp
   | cons a q => exact h a (List.mem_cons_self ..)
 · simp
theorem takeR_mem {m : Nat} {r : List (List UInt8)} (h : ∀ y ∈ r, y.length ≤ m) (t : Bool) : ∀ y ∈ takeR t r, y.length ≤ m := fun y hy => by
 unfold takeR at hy
 split at hy
 · exact h y (List.mem_of_mem_tail hy)
 · exact h y hy
theorem take_sizes {m : Nat} {r : List (List UInt8)} (h : ∀ y ∈ r, y.length ≤ m) (a b c : Bool) (hm : m ≤ 349525 := by decide) : (takeF a r).length + (takeF b (takeR a r)).length + (takeF c (takeR b (takeR a r))).length ≤ 1048576 := by
 have h1 := takeF_len h a
 have h2 := takeF_len (takeR_mem h a) b
 have h3 := takeF_len (takeR_mem (takeR_mem h a) b) c
 omega
def RetPar (ok : Bool) (w : World) (e : Ending) (w' : World) : Prop := (∃ (a : Int) (b c d : ByteArray), e = .returned (.tuple #[.agg #[.int .i64 a, .string b, .string c, .string d], .int .i64 (if ok then 0 else 2)])) ∧ Below w.heap.size w w'
theorem ret_par {ok : Bool} {n a : Int} {b c d : ByteArray} {w w' : World} (h : n = if ok then 0 else 2) (hb : Below w.heap.size w w') : RetPar ok w (.returned (.tuple #[.agg #[.int .i64 a, .string b, .string c, .string d], .int .i64 n])) w' := ⟨⟨a, b, c, d, by rw [h]⟩, hb⟩
theorem op4_one (a : Int) (b c d : ByteArray) : (#[.int .i64 a, .string b, .string c, .string d] : Array Value).all (·.oneCell') = true := by simp [Value.oneCell']
theorem infoOpT : (Tryz.prog.info? 124).map (·.size) = some 4 := by kernel_rfl
set_option maxRecDepth 100000 in
set_option maxHeartbeats 8000000 in
theorem parse_any (s : ByteArray) (w : World) (he : Env w) (hs : s.size ≤ 300000) : Calls Tryz.prog 93 #[.string s] w (RetPar (opOk s.data.toList) w) := by
 obtain ⟨x0, rest, hcut⟩ := cut_cons s.data.toList
 have HC := hD hcut
 have hspl := splitB_cut s
 have hlen : (Lib.splitB ⟨#[32]⟩ 0 (Lib.countB s ⟨#[32]⟩) s).length = Lib.countB s ⟨#[32]⟩ + 1 := Lib.splitB_all ⟨#[32]⟩ (by decide) 0 _ s rfl
 have hstr : ((Lib.splitB ⟨#[32]⟩ 0 (Lib.countB s ⟨#[32]⟩) s).map Value.string) = strC (x0 :: rest) := by
  rw [← hcut, ← hspl]
  simp only [strC, List.map_map]
  refine List.map_congr_left (fun x _ => ?_)
  show Value.string x = Value.string ⟨x.data.toList.toArray⟩
  rw [str_mk]
 have hn : Lib.countB s ⟨#[32]⟩ + 1 = (x0 :: rest).length := by rw [← hlen, ← hcut, ← hspl, List.length_map]
 have hrl : (x0 :: rest).length ≤ 1048577 := by
  rw [← hn]
  have := Lib.countB_le ⟨#[32]⟩ (by decide) s.size s (Nat.le_refl _)
  omega
 have HSp : Hid (∀ W, Below w.heap.size w W → Calls Tryz.prog 136 #[.string s, .string ⟨#[32]⟩] W fun e w' => e = .returned (.slice (some ⟨W.heap.size, 0, none⟩) (x0 :: rest).length (x0 :: rest).length) ∧ w' = W.alloc (.cells (strC (x0 :: rest)).toArray 9)) := hD (fun W hb => by
  obtain ⟨m, hm⟩ := (he.below hb).mx
  have h := Tryz.strings_Split s ⟨#[32]⟩ m W (by omega) hm (by decide)
  rw [hn, hstr] at h
  exact h)
 clear hspl hlen hstr hn hcut he
 have HRv := hD (Vr.new w [.int .i64 0, .string ⟨#[]⟩, .string ⟨#[]⟩, .string ⟨#[]⟩] 124)
 have HB := hD (below_new w (.cells #[.int .i64 0, .string ⟨#[]⟩, .string ⟨#[]⟩, .string ⟨#[]⟩] 124))
 go_enter Tryz.func93, Tryz.ntmps93
 go_wp2_with fail
 generalize w.alloc (.cells #[.int .i64 0, .string ⟨#[]⟩, .string ⟨#[]⟩, .string ⟨#[]⟩] 124) = w1 at HRv HB ⊢
 refine (HSp.out _ HB.out).mono ?_
 rintro e w2 ⟨rfl, hw2⟩
 have HP := hD (strs_new w1 (x0 :: rest))
 rw [← hw2] at HP
 have hs2 := below_new w1 (.cells (strC (x0 :: rest)).toArray 9)
 rw [← hw2] at hs2
 clear hw2
 have HRv := hD (HRv.out.below hs2)
 have HB := hD (bon HB.out hs2)
 clear hs2
 generalize w1.heap.size = bp at HP ⊢
 go_wp2_with fail
 refine (forms_any _).mono ?_
 rintro e w3 ⟨bm, rfl, hown, hs3, hbm⟩
 have HRv := hD (HRv.out.below hs3)
 have HP := hD (HP.out.below hs3)
 have HB := hD (bon HB.out hs3)
 clear hs3 hbm
 go_wp2_with (at_range; refine wpList_range_own _ rfl _ 182 rfl 3 185 formsL Tryz.underlying182 formR bm 6 formsD rfl hown ?_; intro w0 hrg0 hg0 hs0)
 try go_frame
 generalize hrm : w3.heap.size = rm at hrg0 ⊢
 have HB0 : Hid (Below w3.heap.size w3 w0) := hD (below_grown (Below.refl _ _) (Nat.le_refl _) hg0 (fun g hg => by simp at hg))
 have HRm : Hid (w3.heap.size ≤ rm) := hD (by omega)
 clear hrm hg0 hs0 hown
 go_loopw [5] (fun _ wr => ∃ left cnt, wr.ranges Tryz.prog 3 formR bm rm 6 formsD left cnt ∧ Below w3.heap.size w3 wr ∧ ∀ k : Nat, 1 ≤ k → k ≤ 6 → left (.int .i64 (k : Int)) = false → kindOk k s.data.toList = false) (fun _ wr => wr.rangeLeft bm rm)
 case atStart => exact ⟨_, _, hrg0, HB0.out, fun k h1 h6 h => by rw [(forms_at k h1 h6 .nil).2] at h; cases h⟩
 case round =>
  obtain ⟨left, cnt, hrg, hB, hno⟩ := hrel
  have HW := hD hB
  have HN := hD hno
  clear hB hno
  go_wp2_with (at_next; refine wpList_next_forms _ rfl _ rfl bm rm left cnt rfl hrg ?_ ?_)
  · intro hl0
    have HF : Hid (opOk s.data.toList = false) := hD (opOk_no (fun k h1 h6 => HN.out k h1 h6 (hl0.out _)))
    have HRv := hD (HRv.out.below HW.out)
    have HBw := hD (bon HB.out HW.out)
    have HR2 := hD (HRv.out.sets [.int .i64 0, .string ⟨#[]⟩, .string ⟨#[]⟩, .string ⟨#[]⟩] rfl)
    have HB2 := hD (below_gr HBw.out (grown_vs (b := w.heap.size) [.int .i64 0, .string ⟨#[]⟩, .string ⟨#[]⟩, .string ⟨#[]⟩]) (Nat.le_refl _))
    clear hl0 hrg
    go_wp2_with (refine wpList_store_mid rfl 124 _ _ rfl w.heap.size 0 #[.int .i64 0, .string ⟨#[]⟩, .string ⟨#[]⟩, .string ⟨#[]⟩] rfl rfl ?_ infoOpT (op4_one _ _ _ _) ?_; · exact HRv.out.there rfl)
    refine bodyPost_ret (v := .tuple #[.agg #[.int .i64 0, .string ⟨#[]⟩, .string ⟨#[]⟩, .string ⟨#[]⟩], .int .i64 2]) ?_ rfl (ret_par (ok := opOk s.data.toList) (by rw [HF.out]; rfl) HB2.out)
    exact results_mid_slot Tryz.results93 _ _ w.heap.size [.int .i64 0, .string ⟨#[]⟩, .string ⟨#[]⟩, .string ⟨#[]⟩] _ _ rfl rfl HR2.out.range Tryz.underlying124 rfl infoOpT
  · intro k w4 cnt4 hk
    obtain ⟨h1, h6, hlx, hrg4, hlt4, hg4, hs4, hen⟩ := hk.out
    have HW4 : Hid (Below w3.heap.size w3 w4) := hD (below_grown HW.out HW.out.size hg4 (fun g hg => by simp only [Option.some.injEq] at hg; have := HRm.out; omega))
    have HG := hD hrg4
    have HGo := hD hrg
    have HLt := hD hlt4
    clear hlx hrg4 hlt4 hg4 hs4 hrg hk
    have HV6 := hD (Vr.new w4 [.string ⟨(opWord k).toArray⟩, .bool (hasKey k), .bool (hasOld k), .bool (hasNew k)] 185)
    have hb5 := below_new w4 (.cells #[.string ⟨(opWord k).toArray⟩, .bool (hasKey k), .bool (hasOld k), .bool (hasNew k)] 185)
    have HG := hD (ranges_below HG.out hb5)
    have HW5 := hD (bon HW4.out hb5)
    clear hb5
    go_upto_region 5 with fail
    generalize w4.alloc (.cells #[.string ⟨(opWord k).toArray⟩, .bool (hasKey k), .bool (hasOld k), .bool (hasNew k)] 185) = w5 at HV6 HG HW5 ⊢
    generalize w4.heap.size = b6 at HV6 ⊢
    have d0 := HV6.out.cells 0 _ rfl
    have d1 := HV6.out.lt
    have HPc := hD (HP.out.below HW5.out)
    have p0 := HPc.out.cells 0 _ rfl
    have p1 := HPc.out.lt
    have i1 : (0 : Int) < (rest.length : Int) + 1 := by omega
    clear hen
    by_cases hx : opWord k = x0
    case neg =>
     have q1 : (opWord k == x0) = false := by simpa using hx
     have q2 : (opWord k != x0) = true := by simpa using hx
     have HK : Hid (kindOk k s.data.toList = false) := hD (kind_no HC.out (fun e => hx e.symm))
     clear hx
     go_wp2_with fail
     go_quiet (fail)
     all_goals
      have HGn := hD (ranges_below HG.out (bdN (Below.refl _ _) nq))
      go_wp2_with fail
      go_roundw
      case rel => exact ⟨_, cnt4, HGn.out, bon HW5.out (bdN (Below.refl _ _) nq), left_step HN.out HK.out⟩
      case measure => rw [HGn.out.left_eq, HGo.out.left_eq]; exact HLt.out
    have q1 : (opWord k == x0) = true := by simpa using hx
    have q2 : (opWord k != x0) = false := by simpa using hx
    have HKd : Hid (progOk k s.data.toList rest = kindOk k s.data.toList) := hD (prog_kind h1 h6 (by rw [HC.out, hx]))
    clear hx
    go_wp2_with fail
    go_quiet (fail)
    all_goals
     have hbq := bdN (Below.refl w5.heap.size w5) nq
     have HG := hD (ranges_below HG.out hbq)
     have HV6 := hD (HV6.out.below hbq)
     have HW6 := hD (bon HW5.out hbq)
     clear hbq d0 d1 p0 p1 q1 q2
     generalize w5.drewN nq = w6 at HG HV6 HW6 ⊢
     have HP6 := hD (HP.out.below HW6.out)
     obtain ⟨o2, hsl⟩ := slice_rest (b := bp) (off := 0) (n := rest.length + 1) (c := rest.length + 1) (by omega) (Nat.le_refl _) (by simp only [List.length_cons] at hrl; omega)
     have hs1 : ∀ W : World, Sem.run Tryz.prog (Instr.slice 32 (.slice (some ⟨bp, 0, none⟩) (rest.length + 1) (rest.length + 1)) (some (.int .i64 1)) none none) W = .ok (.slice (some ⟨bp, o2, none⟩) rest.length rest.length) W := fun W => (hsl W).1
     have HO2 : Hid (0 < rest.length → o2 = 1) := hD (fun h => (hsl w6).2 (by omega))
     clear hsl
     go_wp2_with fail
     have HV6b : Hid (b6 < w6.heap.size) := hD HV6.out.lt
     refine wp_region_noPanic ?_
     have HB6 := hD ((Below.refl w6.heap.size w6).drew)
     generalize hv : w6.drew = v0 at HB6
     refine wp_region_held_drew (S := fun _ => True) (by kernel_rfl) trivial (fun hHeld => ?_)
     rw [hv]
     clear hv
     refine tkq 0 rfl (v := ?_) (.inl ⟨by rfl, ?_⟩) (by assumption) ?_
     rotate_left
     · intro W h; (try dsimp only at h); go_simp; try with_reducible rfl
     try simp only [Act.put,qk1,qk2,qk3,qk4,qk6]
     refine tkq 1 rfl (v := ?_) (.inl ⟨by rfl, ?_⟩) (by assumption) ?_
     rotate_left
     · intro W h; (try dsimp only at h); go_simp; try with_reducible rfl
     try simp only [Act.put,qk1,qk2,qk3,qk4,qk5,qk6]
     refine tkq 2 rfl (v := ?_) (.inl ⟨by rfl, ?_⟩) (by assumption) ?_
     rotate_left
     · intro W h; (try dsimp only at h); go_simp; try with_reducible rfl
     try simp only [Act.put,qk1,qk2,qk3,qk4,qk5,qk6]
     refine tkq 3 rfl (v := ?_) (.inl ⟨by rfl, ?_⟩) (by assumption) ?_
     rotate_left
     · intro W h; (try dsimp only at h); go_simp; try with_reducible rfl
     try simp only [Act.put,qk1,qk2,qk3,qk4,qk5,qk6]
     refine wpAnyH_ready (rs := [4, 5]) (by kernel_rfl) (by simp) ?_
     refine AllReadyH.cons (o := _) rfl (fun K hK => ?_) (AllReadyH.cons (o := _) rfl (fun K hK => ?_) AllReadyH.nil)
     · go_simp
       have hs := below_new v0 (.cells #[.int .i64 0, .string ⟨#[]⟩, .string ⟨#[]⟩, .string ⟨#[]⟩] 124)
       have HO := hD (Vr.new v0 [.int .i64 0, .string ⟨#[]⟩, .string ⟨#[]⟩, .string ⟨#[]⟩] 124)
       have hgo : w6.heap.size ≤ v0.heap.size := HB6.out.size
       have HB6 := hD (bon HB6.out hs)
       clear hs
       generalize v0.alloc (.cells #[.int .i64 0, .string ⟨#[]⟩, .string ⟨#[]⟩, .string ⟨#[]⟩] 124) = v1 at HO HB6 ⊢
       generalize v0.heap.size = b7 at HO hgo ⊢
       refine hK.out _ _ trivial (fun hHeld => ?_)
       clear hK K
       try simp only [Act.put,qk1,qk2,qk3,qk4,qk5,qk6]
       refine tkr 5 rfl (fun K hK => ?_)
       go_simp
       have hs := below_new v1 (.cells #[.slice none 0 0] 32)
       have HR := hD (Vr.new v1 [.slice none 0 0] 32)
       have hgr : w6.heap.size ≤ v1.heap.size := HB6.out.size
       have hne : b7 ≠ v1.heap.size := by have := HO.out.lt; omega
       have HO := hD (HO.out.below hs)
       have HB6 := hD (bon HB6.out hs)
       clear hs
       generalize v1.alloc (.cells #[.slice none 0 0] 32) = v2 at HR HB6 HO ⊢
       generalize v1.heap.size = b8 at HR hgr hne ⊢
       refine hK.out _ _ trivial (fun hHeld => ?_)
       clear hK K
       try simp only [Act.put,qk1,qk2,qk3,qk4,qk5,qk6]
       refine tkr 6 rfl (fun K hK => ?_)
       have e0 := HO.out.cells 0 _ rfl
       have e1 := HO.out.cells 1 _ rfl
       have e2 := HO.out.cells 2 _ rfl
       have e3 := HO.out.cells 3 _ rfl
       have f0 := HO.out.free 0 (by simp)
       have f1 := HO.out.free 1 (by simp)
       have f2 := HO.out.free 2 (by simp)
       have f3 := HO.out.free 3 (by simp)
       have lz := HO.out.lt
       go_simp
       change K _ (v2.setCells b7 0 [.int .i64 (k : Int), .string ⟨#[]⟩, .string ⟨#[]⟩, .string ⟨#[]⟩])
       have HR := hD (HR.out.grown (grown_vs (b := b7) [.int .i64 (k : Int), .string ⟨#[]⟩, .string ⟨#[]⟩, .string ⟨#[]⟩]) (by omega))
       have HB6 := hD (below_gr HB6.out (grown_vs (b := b7) [.int .i64 (k : Int), .string ⟨#[]⟩, .string ⟨#[]⟩, .string ⟨#[]⟩]) (by omega))
       have HO := hD (HO.out.sets [.int .i64 (k : Int), .string ⟨#[]⟩, .string ⟨#[]⟩, .string ⟨#[]⟩] rfl)
       clear e0 e1 e2 e3 f0 f1 f2 f3 lz
       generalize v2.setCells b7 0 [.int .i64 (k : Int), .string ⟨#[]⟩, .string ⟨#[]⟩, .string ⟨#[]⟩] = v3 at HO HR HB6 ⊢
       refine hK.out _ _ trivial (fun hHeld => ?_)
       clear hK K
       try simp only [Act.put,qk1,qk2,qk3,qk4,qk5,qk6]
       refine tkr 7 rfl (fun K hK => ?_)
       have e0 := HR.out.cells 0 _ rfl
       have f0 := HR.out.free 0 (by simp)
       have lz := HR.out.lt
       go_simp
       have HO := hD (HO.out.grown (grown_set v3 ⟨b8, 0, none⟩ (.slice (some ⟨bp, o2, none⟩) rest.length rest.length)) (by show b7 ≠ b8; omega))
       have HB6 := hD (below_gr HB6.out (grown_set v3 ⟨b8, 0, none⟩ (.slice (some ⟨bp, o2, none⟩) rest.length rest.length)) (by show w6.heap.size ≤ b8; omega))
       have HR := hD (HR.out.set 0 (.slice (some ⟨bp, o2, none⟩) rest.length rest.length))
       clear e0 f0 lz
       generalize v3.setCell ⟨b8, 0, none⟩ (.slice (some ⟨bp, o2, none⟩) rest.length rest.length) = v4 at HO HR HB6 ⊢
       refine hK.out _ _ trivial (fun hHeld => ?_)
       clear hK K
       try simp only [Act.put,qk1,qk2,qk3,qk4,qk5,qk6]
       refine wpAnyH_done (by kernel_rfl) ?_ _
       refine NoPanic.normal ?_
       clear hs1
       have HR : Hid (RestAt v4 b8 bp rest) := hD ⟨HR.out.lt, by have := HP6.out.lt; have := HB6.out.size; omega, by have := HP6.out.lt; omega, HR.out.free 0 (by simp), o2, rest.length, HR.out.cells 0 _ rfl, Nat.le_refl _, by simp only [List.length_cons] at hrl; omega, fun j u hu => by
        have hj : 0 < rest.length := by
         have := (List.getElem?_eq_some_iff.1 hu).1
         rw [strC_len] at this
         omega
        rw [HO2.out hj, Nat.add_comm]
        exact (HP6.out.below HB6.out).cells (j + 1) u hu⟩
       have HV6 := hD (HV6.out.below HB6.out)
       have hb6 : b6 < w6.heap.size := HV6b.out
       clear HO2
       go_wp2_with fail
       refine wp_region_noPanic ?_
       have HO := hD (HO.out.below (Below.refl _ _).drew)
       have HR := hD (HR.out.below (Below.refl _ _).drew)
       have HV6 := hD (HV6.out.below (Below.refl _ _).drew)
       have HB6 := hD (HB6.out.drew)
       generalize hv : v4.drew = u0 at HO HR HV6 HB6
       have hS0 : World.cell? u0 ⟨b6, 1, none⟩ = some (.bool (hasKey k)) ∧ World.cell? u0 ⟨b6, 2, none⟩ = some (.bool (hasOld k)) ∧ World.cell? u0 ⟨b6, 3, none⟩ = some (.bool (hasNew k)) := ⟨HV6.out.cells 1 _ rfl, HV6.out.cells 2 _ rfl, HV6.out.cells 3 _ rfl⟩
       refine wp_region_held_drew (S := fun W => World.cell? W ⟨b6, 1, none⟩ = some (.bool (hasKey k)) ∧ World.cell? W ⟨b6, 2, none⟩ = some (.bool (hasOld k)) ∧ World.cell? W ⟨b6, 3, none⟩ = some (.bool (hasNew k))) (by kernel_rfl) (by rw [hv]; exact hS0) (fun hHeld => ?_)
       rw [hv] at hHeld ⊢
       clear hv
       refine tkq 0 rfl (v := ?_) (.inl ⟨by rfl, ?_⟩) (by assumption) ?_
       rotate_left
       · intro W h; (try dsimp only at h); go_simp; try with_reducible rfl
       try simp only [Act.put,qk1,qk2,qk3,qk4,qk6]
       refine tkq 1 rfl (v := ?_) (.inl ⟨by rfl, ?_⟩) (by assumption) ?_
       rotate_left
       · intro W h; (try dsimp only at h); go_simp; try with_reducible rfl
       try simp only [Act.put,qk1,qk2,qk3,qk4,qk5,qk6]
       refine tkq 2 rfl (v := ?_) (.inl ⟨by rfl, ?_⟩) (by assumption) ?_
       rotate_left
       · intro W h; (try dsimp only at h); go_simp; try with_reducible rfl
       try simp only [Act.put,qk1,qk2,qk3,qk4,qk5,qk6]
       refine tkq 4 rfl (v := ?_) (.inl ⟨by rfl, ?_⟩) (by assumption) ?_
       rotate_left
       · intro W h; (try dsimp only at h); go_simp; try with_reducible rfl
       try simp only [Act.put,qk1,qk2,qk3,qk4,qk5,qk6]
       refine tkq 5 rfl (v := ?_) (.inl ⟨by rfl, ?_⟩) (by assumption) ?_
       rotate_left
       · intro W h; (try dsimp only at h); go_simp; try with_reducible rfl
       try simp only [Act.put,qk1,qk2,qk3,qk4,qk5,qk6]
       refine tkq 6 rfl (v := ?_) (.inl ⟨by rfl, ?_⟩) (by assumption) ?_
       rotate_left
       · intro W h; (try dsimp only at h); go_simp; try with_reducible rfl
       try simp only [Act.put,qk1,qk2,qk3,qk4,qk5,qk6]
       refine tkq 8 rfl (v := ?_) (.inl ⟨by rfl, ?_⟩) (by assumption) ?_
       rotate_left
       · intro W h; (try dsimp only at h); go_simp; try with_reducible rfl
       try simp only [Act.put,qk1,qk2,qk3,qk4,qk5,qk6]
       refine tkq 9 rfl (v := ?_) (.inl ⟨by rfl, ?_⟩) (by assumption) ?_
       rotate_left
       · intro W h; (try dsimp only at h); go_simp; try with_reducible rfl
       try simp only [Act.put,qk1,qk2,qk3,qk4,qk5,qk6]
       refine tkq 10 rfl (v := ?_) (.inl ⟨by rfl, ?_⟩) (by assumption) ?_
       rotate_left
       · intro W h; (try dsimp only at h); go_simp; try with_reducible rfl
       try simp only [Act.put,qk1,qk2,qk3,qk4,qk5,qk6]
       refine tkr 3 rfl (fun K hK => ?_)
       go_simp
       go_at_call 138
       refine (take_any (hasKey k) (rest) b8 bp u0 HR.out).mono ?_
       rintro e u1 ⟨rfl, hr, hg, hz⟩
       have HR := hD hr
       have HO := hD (HO.out.grown hg (by omega))
       have HV6 := hD (HV6.out.grown hg (by omega))
       have HB6 := hD (below_grown HB6.out HB6.out.size hg (fun g h => by simp only [Option.some.injEq] at h; omega))
       clear hr hg hz
       go_wp2_with fail
       have hSu1 : World.cell? u1 ⟨b6, 1, none⟩ = some (.bool (hasKey k)) ∧ World.cell? u1 ⟨b6, 2, none⟩ = some (.bool (hasOld k)) ∧ World.cell? u1 ⟨b6, 3, none⟩ = some (.bool (hasNew k)) := ⟨HV6.out.cells 1 _ rfl, HV6.out.cells 2 _ rfl, HV6.out.cells 3 _ rfl⟩
       refine hK.out _ _ hSu1 (fun hHeld => ?_)
       clear hK K
       try simp only [Act.put,qk1,qk2,qk3,qk4,qk5,qk6]
       refine tkq 12 rfl (v := ?_) (.inl ⟨by rfl, ?_⟩) (by assumption) ?_
       rotate_left
       · intro W h; (try dsimp only at h); go_simp; try with_reducible rfl
       try simp only [Act.put,qk1,qk2,qk3,qk4,qk5,qk6]
       refine tkr 7 rfl (fun K hK => ?_)
       go_simp
       go_at_call 138
       refine (take_any (hasOld k) (takeR (hasKey k) rest) b8 bp u1 HR.out).mono ?_
       rintro e u2 ⟨rfl, hr, hg, hz⟩
       have HR := hD hr
       have HO := hD (HO.out.grown hg (by omega))
       have HV6 := hD (HV6.out.grown hg (by omega))
       have HB6 := hD (below_grown HB6.out HB6.out.size hg (fun g h => by simp only [Option.some.injEq] at h; omega))
       clear hr hg hz
       go_wp2_with fail
       have hSu2 : World.cell? u2 ⟨b6, 1, none⟩ = some (.bool (hasKey k)) ∧ World.cell? u2 ⟨b6, 2, none⟩ = some (.bool (hasOld k)) ∧ World.cell? u2 ⟨b6, 3, none⟩ = some (.bool (hasNew k)) := ⟨HV6.out.cells 1 _ rfl, HV6.out.cells 2 _ rfl, HV6.out.cells 3 _ rfl⟩
       refine hK.out _ _ hSu2 (fun hHeld => ?_)
       clear hK K
       try simp only [Act.put,qk1,qk2,qk3,qk4,qk5,qk6]
       refine tkr 11 rfl (fun K hK => ?_)
       go_simp
       go_at_call 138
       refine (take_any (hasNew k) (takeR (hasOld k) (takeR (hasKey k) rest)) b8 bp u2 HR.out).mono ?_
       rintro e u3 ⟨rfl, hr, hg, hz⟩
       have HR := hD hr
       have HO := hD (HO.out.grown hg (by omega))
       have HV6 := hD (HV6.out.grown hg (by omega))
       have HB6 := hD (below_grown HB6.out HB6.out.size hg (fun g h => by simp only [Option.some.injEq] at h; omega))
       clear hr hg hz
       go_wp2_with fail
       have hSu3 : World.cell? u3 ⟨b6, 1, none⟩ = some (.bool (hasKey k)) ∧ World.cell? u3 ⟨b6, 2, none⟩ = some (.bool (hasOld k)) ∧ World.cell? u3 ⟨b6, 3, none⟩ = some (.bool (hasNew k)) := ⟨HV6.out.cells 1 _ rfl, HV6.out.cells 2 _ rfl, HV6.out.cells 3 _ rfl⟩
       refine hK.out _ _ hSu3 (fun hHeld => ?_)
       clear hK K
       try simp only [Act.put,qk1,qk2,qk3,qk4,qk5,qk6]
       have hsz : (takeF (hasKey k) rest).length + (takeF (hasOld k) (takeR (hasKey k) rest)).length + (takeF (hasNew k) (takeR (hasOld k) (takeR (hasKey k) rest))).length ≤ 1048576 := take_sizes (m := 300000) (fun y hy => Nat.le_trans (cut_len s.data.toList y (by rw [HC.out]; exact List.mem_cons_of_mem _ hy)) (by simpa using hs)) _ _ _
       have HQ : Hid ((opOkF k (takeF (hasKey k) rest) (takeF (hasOld k) (takeR (hasKey k) rest)) (takeF (hasNew k) (takeR (hasOld k) (takeR (hasKey k) rest))) && (opText k (takeF (hasKey k) rest) (takeF (hasOld k) (takeR (hasKey k) rest)) (takeF (hasNew k) (takeR (hasOld k) (takeR (hasKey k) rest))) == s.data.toList)) = kindOk k s.data.toList) := HKd
       generalize takeF (hasNew k) (takeR (hasOld k) (takeR (hasKey k) rest)) = new at hsz HQ ⊢
       generalize takeF (hasOld k) (takeR (hasKey k) rest) = old at hsz HQ ⊢
       generalize takeF (hasKey k) rest = key at hsz HQ ⊢
       refine tkr 13 rfl (fun K hK => ?_)
       have cz := HO.out.cells 1 _ rfl
       have fz := HO.out.free 1 (by simp)
       have lz := HO.out.lt
       go_simp
       have HO := hD (HO.out.set 1 (.string ⟨key.toArray⟩))
       have HV6 := hD (HV6.out.grown (grown_set u3 ⟨b7, 1, none⟩ (.string ⟨key.toArray⟩)) (by show b6 ≠ b7; omega))
       have HB6 := hD (below_gr HB6.out (grown_set u3 ⟨b7, 1, none⟩ (.string ⟨key.toArray⟩)) (by show w6.heap.size ≤ b7; omega))
       clear cz fz lz
       generalize u3.setCell ⟨b7, 1, none⟩ (.string ⟨key.toArray⟩) = u4 at HO HV6 HB6 ⊢
       have hSu4 : World.cell? u4 ⟨b6, 1, none⟩ = some (.bool (hasKey k)) ∧ World.cell? u4 ⟨b6, 2, none⟩ = some (.bool (hasOld k)) ∧ World.cell? u4 ⟨b6, 3, none⟩ = some (.bool (hasNew k)) := ⟨HV6.out.cells 1 _ rfl, HV6.out.cells 2 _ rfl, HV6.out.cells 3 _ rfl⟩
       refine hK.out _ _ hSu4 (fun hHeld => ?_)
       clear hK K
       try simp only [Act.put,qk1,qk2,qk3,qk4,qk5,qk6]
       refine tkq 14 rfl (v := ?_) (.inl ⟨by rfl, ?_⟩) (by assumption) ?_
       rotate_left
       · intro W h; (try dsimp only at h); go_simp; try with_reducible rfl
       try simp only [Act.put,qk1,qk2,qk3,qk4,qk5,qk6]
       refine tkr 15 rfl (fun K hK => ?_)
       have cz := HO.out.cells 2 _ rfl
       have fz := HO.out.free 2 (by simp)
       have lz := HO.out.lt
       go_simp
       have HO := hD (HO.out.set 2 (.string ⟨old.toArray⟩))
       have HV6 := hD (HV6.out.grown (grown_set u4 ⟨b7, 2, none⟩ (.string ⟨old.toArray⟩)) (by show b6 ≠ b7; omega))
       have HB6 := hD (below_gr HB6.out (grown_set u4 ⟨b7, 2, none⟩ (.string ⟨old.toArray⟩)) (by show w6.heap.size ≤ b7; omega))
       clear cz fz lz
       generalize u4.setCell ⟨b7, 2, none⟩ (.string ⟨old.toArray⟩) = u5 at HO HV6 HB6 ⊢
       have hSu5 : World.cell? u5 ⟨b6, 1, none⟩ = some (.bool (hasKey k)) ∧ World.cell? u5 ⟨b6, 2, none⟩ = some (.bool (hasOld k)) ∧ World.cell? u5 ⟨b6, 3, none⟩ = some (.bool (hasNew k)) := ⟨HV6.out.cells 1 _ rfl, HV6.out.cells 2 _ rfl, HV6.out.cells 3 _ rfl⟩
       refine hK.out _ _ hSu5 (fun hHeld => ?_)
       clear hK K
       try simp only [Act.put,qk1,qk2,qk3,qk4,qk5,qk6]
       refine tkq 16 rfl (v := ?_) (.inl ⟨by rfl, ?_⟩) (by assumption) ?_
       rotate_left
       · intro W h; (try dsimp only at h); go_simp; try with_reducible rfl
       try simp only [Act.put,qk1,qk2,qk3,qk4,qk5,qk6]
       refine tkr 17 rfl (fun K hK => ?_)
       have cz := HO.out.cells 3 _ rfl
       have fz := HO.out.free 3 (by simp)
       have lz := HO.out.lt
       go_simp
       have HO := hD (HO.out.set 3 (.string ⟨new.toArray⟩))
       have HV6 := hD (HV6.out.grown (grown_set u5 ⟨b7, 3, none⟩ (.string ⟨new.toArray⟩)) (by show b6 ≠ b7; omega))
       have HB6 := hD (below_gr HB6.out (grown_set u5 ⟨b7, 3, none⟩ (.string ⟨new.toArray⟩)) (by show w6.heap.size ≤ b7; omega))
       clear cz fz lz
       generalize u5.setCell ⟨b7, 3, none⟩ (.string ⟨new.toArray⟩) = u6 at HO HV6 HB6 ⊢
       have hSu6 : World.cell? u6 ⟨b6, 1, none⟩ = some (.bool (hasKey k)) ∧ World.cell? u6 ⟨b6, 2, none⟩ = some (.bool (hasOld k)) ∧ World.cell? u6 ⟨b6, 3, none⟩ = some (.bool (hasNew k)) := ⟨HV6.out.cells 1 _ rfl, HV6.out.cells 2 _ rfl, HV6.out.cells 3 _ rfl⟩
       refine hK.out _ _ hSu6 (fun hHeld => ?_)
       clear hK K
       try simp only [Act.put,qk1,qk2,qk3,qk4,qk5,qk6]
       refine wpAnyH_done (by kernel_rfl) ?_ _
       refine NoPanic.normal ?_
       clear hS0 hSu1 hSu2 hSu3 hSu4 hSu5 hSu6
       have HO := hD (HO.out.eq (cs' := [.int .i64 (k : Int), .string ⟨key.toArray⟩, .string ⟨old.toArray⟩, .string ⟨new.toArray⟩]) rfl)
       have HFm := hD (format_any k h1 h6 key old new u6 hsz)
       have o0 := HO.out.cells 0 _ rfl
       have o1 := HO.out.cells 1 _ rfl
       have o3 := HO.out.cells 2 _ rfl
       have o4 := HO.out.cells 3 _ rfl
       have ol := HO.out.lt
       go_wp2_with fail
       clear o0 o1 o3 o4 ol
       cases hq : opOkF k key old new with
       | false =>
        rw [hq] at HFm HQ
        have HK : Hid (kindOk k s.data.toList = false) := hD HQ.out.symm
        refine HFm.out.mono ?_
        rintro e u7 ⟨rfl, b7'⟩
        have HG := hD (ranges_below HG.out (bon HB6.out b7'))
        have HW7 := hD (bon HW6.out (bon HB6.out b7'))
        clear b7' hq
        go_wp2_with fail
        go_roundw
        case rel => exact ⟨_, cnt4, HG.out, HW7.out, left_step HN.out HK.out⟩
        case measure => rw [HG.out.left_eq, HGo.out.left_eq]; exact HLt.out
       | true =>
        rw [hq] at HFm HQ
        refine HFm.out.mono ?_
        rintro e u7 ⟨rfl, b7'⟩
        have HG := hD (ranges_below HG.out (bon HB6.out b7'))
        have HW7 := hD (bon HW6.out (bon HB6.out b7'))
        have HO := hD (HO.out.below b7')
        clear b7' hq
        by_cases ht : opText k key old new = s.data.toList
        · have t1 : (opText k key old new == s.toList) = true := by rw [Lib.toList_data]; simpa using ht
          have HF : Hid (opOk s.data.toList = true) := hD (opOk_of h1 h6 (by rw [← HQ.out, ht]; simp))
          have HRv := hD (HRv.out.below HW7.out)
          have HR2 := hD (HRv.out.sets [.int .i64 (k : Int), .string ⟨key.toArray⟩, .string ⟨old.toArray⟩, .string ⟨new.toArray⟩] rfl)
          have HB2 := hD (below_gr (bon HB.out HW7.out) (grown_vs (b := w.heap.size) [.int .i64 (k : Int), .string ⟨key.toArray⟩, .string ⟨old.toArray⟩, .string ⟨new.toArray⟩]) (Nat.le_refl _))
          clear ht
          go_wp2_with (first
           | (refine wpList_load_mid rfl 124 _ rfl b7 0 rfl [.int .i64 (k : Int), .string ⟨key.toArray⟩, .string ⟨old.toArray⟩, .string ⟨new.toArray⟩] _ HO.out.range Tryz.underlying124 rfl infoOpT ?_)
           | (refine wpList_store_mid rfl 124 _ _ rfl w.heap.size 0 #[.int .i64 (k : Int), .string ⟨key.toArray⟩, .string ⟨old.toArray⟩, .string ⟨new.toArray⟩] rfl rfl ?_ infoOpT (op4_one _ _ _ _) ?_; · exact HRv.out.there rfl))
          refine bodyPost_ret (v := .tuple #[.agg #[.int .i64 (k : Int), .string ⟨key.toArray⟩, .string ⟨old.toArray⟩, .string ⟨new.toArray⟩], .int .i64 0]) ?_ rfl (ret_par (ok := opOk s.data.toList) (by rw [HF.out]; rfl) HB2.out)
          exact results_mid_slot Tryz.results93 _ _ w.heap.size [.int .i64 (k : Int), .string ⟨key.toArray⟩, .string ⟨old.toArray⟩, .string ⟨new.toArray⟩] _ _ rfl rfl HR2.out.range Tryz.underlying124 rfl infoOpT
        · have t1 : (opText k key old new == s.toList) = false := by rw [Lib.toList_data]; simpa using ht
          have HK : Hid (kindOk k s.data.toList = false) := hD (by rw [← HQ.out]; simpa using ht)
          clear ht
          go_wp2_with fail
          go_roundw
          case rel => exact ⟨_, cnt4, HG.out, HW7.out, left_step HN.out HK.out⟩
          case measure => rw [HG.out.left_eq, HGo.out.left_eq]; exact HLt.out
     · go_simp
       have hs := below_new v0 (.cells #[.slice none 0 0] 32)
       have HR := hD (Vr.new v0 [.slice none 0 0] 32)
       have hgr : w6.heap.size ≤ v0.heap.size := HB6.out.size
       have HB6 := hD (bon HB6.out hs)
       clear hs
       generalize v0.alloc (.cells #[.slice none 0 0] 32) = v1 at HR HB6 ⊢
       generalize v0.heap.size = b8 at HR hgr ⊢
       refine hK.out _ _ trivial (fun hHeld => ?_)
       clear hK K
       try simp only [Act.put,qk1,qk2,qk3,qk4,qk5,qk6]
       refine tkr 4 rfl (fun K hK => ?_)
       go_simp
       have hs := below_new v1 (.cells #[.int .i64 0, .string ⟨#[]⟩, .string ⟨#[]⟩, .string ⟨#[]⟩] 124)
       have HO := hD (Vr.new v1 [.int .i64 0, .string ⟨#[]⟩, .string ⟨#[]⟩, .string ⟨#[]⟩] 124)
       have hgo : w6.heap.size ≤ v1.heap.size := HB6.out.size
       have hne : v1.heap.size ≠ b8 := by have := HR.out.lt; omega
       have HR := hD (HR.out.below hs)
       have HB6 := hD (bon HB6.out hs)
       clear hs
       generalize v1.alloc (.cells #[.int .i64 0, .string ⟨#[]⟩, .string ⟨#[]⟩, .string ⟨#[]⟩] 124) = v2 at HO HB6 HR ⊢
       generalize v1.heap.size = b7 at HO hgo hne ⊢
       refine hK.out _ _ trivial (fun hHeld => ?_)
       clear hK K
       try simp only [Act.put,qk1,qk2,qk3,qk4,qk5,qk6]
       refine tkr 6 rfl (fun K hK => ?_)
       have e0 := HO.out.cells 0 _ rfl
       have e1 := HO.out.cells 1 _ rfl
       have e2 := HO.out.cells 2 _ rfl
       have e3 := HO.out.cells 3 _ rfl
       have f0 := HO.out.free 0 (by simp)
       have f1 := HO.out.free 1 (by simp)
       have f2 := HO.out.free 2 (by simp)
       have f3 := HO.out.free 3 (by simp)
       have lz := HO.out.lt
       go_simp
       change K _ (v2.setCells b7 0 [.int .i64 (k : Int), .string ⟨#[]⟩, .string ⟨#[]⟩, .string ⟨#[]⟩])
       have HR := hD (HR.out.grown (grown_vs (b := b7) [.int .i64 (k : Int), .string ⟨#[]⟩, .string ⟨#[]⟩, .string ⟨#[]⟩]) (by omega))
       have HB6 := hD (below_gr HB6.out (grown_vs (b := b7) [.int .i64 (k : Int), .string ⟨#[]⟩, .string ⟨#[]⟩, .string ⟨#[]⟩]) (by omega))
       have HO := hD (HO.out.sets [.int .i64 (k : Int), .string ⟨#[]⟩, .string ⟨#[]⟩, .string ⟨#[]⟩] rfl)
       clear e0 e1 e2 e3 f0 f1 f2 f3 lz
       generalize v2.setCells b7 0 [.int .i64 (k : Int), .string ⟨#[]⟩, .string ⟨#[]⟩, .string ⟨#[]⟩] = v3 at HO HR HB6 ⊢
       refine hK.out _ _ trivial (fun hHeld => ?_)
       clear hK K
       try simp only [Act.put,qk1,qk2,qk3,qk4,qk5,qk6]
       refine tkr 7 rfl (fun K hK => ?_)
       have e0 := HR.out.cells 0 _ rfl
       have f0 := HR.out.free 0 (by simp)
       have lz := HR.out.lt
       go_simp
       have HO := hD (HO.out.grown (grown_set v3 ⟨b8, 0, none⟩ (.slice (some ⟨bp, o2, none⟩) rest.length rest.length)) (by show b7 ≠ b8; omega))
       have HB6 := hD (below_gr HB6.out (grown_set v3 ⟨b8, 0, none⟩ (.slice (some ⟨bp, o2, none⟩) rest.length rest.length)) (by show w6.heap.size ≤ b8; omega))
       have HR := hD (HR.out.set 0 (.slice (some ⟨bp, o2, none⟩) rest.length rest.length))
       clear e0 f0 lz
       generalize v3.setCell ⟨b8, 0, none⟩ (.slice (some ⟨bp, o2, none⟩) rest.length rest.length) = v4 at HO HR HB6 ⊢
       refine hK.out _ _ trivial (fun hHeld => ?_)
       clear hK K
       try simp only [Act.put,qk1,qk2,qk3,qk4,qk5,qk6]
       refine wpAnyH_done (by kernel_rfl) ?_ _
       refine NoPanic.normal ?_
       clear hs1
       have HR : Hid (RestAt v4 b8 bp rest) := hD ⟨HR.out.lt, by have := HP6.out.lt; have := HB6.out.size; omega, by have := HP6.out.lt; omega, HR.out.free 0 (by simp), o2, rest.length, HR.out.cells 0 _ rfl, Nat.le_refl _, by simp only [List.length_cons] at hrl; omega, fun j u hu => by
        have hj : 0 < rest.length := by
         have := (List.getElem?_eq_some_iff.1 hu).1
         rw [strC_len] at this
         omega
        rw [HO2.out hj, Nat.add_comm]
        exact (HP6.out.below HB6.out).cells (j + 1) u hu⟩
       have HV6 := hD (HV6.out.below HB6.out)
       have hb6 : b6 < w6.heap.size := HV6b.out
       clear HO2
       go_wp2_with fail
       refine wp_region_noPanic ?_
       have HO := hD (HO.out.below (Below.refl _ _).drew)
       have HR := hD (HR.out.below (Below.refl _ _).drew)
       have HV6 := hD (HV6.out.below (Below.refl _ _).drew)
       have HB6 := hD (HB6.out.drew)
       generalize hv : v4.drew = u0 at HO HR HV6 HB6
       have hS0 : World.cell? u0 ⟨b6, 1, none⟩ = some (.bool (hasKey k)) ∧ World.cell? u0 ⟨b6, 2, none⟩ = some (.bool (hasOld k)) ∧ World.cell? u0 ⟨b6, 3, none⟩ = some (.bool (hasNew k)) := ⟨HV6.out.cells 1 _ rfl, HV6.out.cells 2 _ rfl, HV6.out.cells 3 _ rfl⟩
       refine wp_region_held_drew (S := fun W => World.cell? W ⟨b6, 1, none⟩ = some (.bool (hasKey k)) ∧ World.cell? W ⟨b6, 2, none⟩ = some (.bool (hasOld k)) ∧ World.cell? W ⟨b6, 3, none⟩ = some (.bool (hasNew k))) (by kernel_rfl) (by rw [hv]; exact hS0) (fun hHeld => ?_)
       rw [hv] at hHeld ⊢
       clear hv
       refine tkq 0 rfl (v := ?_) (.inl ⟨by rfl, ?_⟩) (by assumption) ?_
       rotate_left
       · intro W h; (try dsimp only at h); go_simp; try with_reducible rfl
       try simp only [Act.put,qk1,qk2,qk3,qk4,qk6]
       refine tkq 1 rfl (v := ?_) (.inl ⟨by rfl, ?_⟩) (by assumption) ?_
       rotate_left
       · intro W h; (try dsimp only at h); go_simp; try with_reducible rfl
       try simp only [Act.put,qk1,qk2,qk3,qk4,qk5,qk6]
       refine tkq 2 rfl (v := ?_) (.inl ⟨by rfl, ?_⟩) (by assumption) ?_
       rotate_left
       · intro W h; (try dsimp only at h); go_simp; try with_reducible rfl
       try simp only [Act.put,qk1,qk2,qk3,qk4,qk5,qk6]
       refine tkq 4 rfl (v := ?_) (.inl ⟨by rfl, ?_⟩) (by assumption) ?_
       rotate_left
       · intro W h; (try dsimp only at h); go_simp; try with_reducible rfl
       try simp only [Act.put,qk1,qk2,qk3,qk4,qk5,qk6]
       refine tkq 5 rfl (v := ?_) (.inl ⟨by rfl, ?_⟩) (by assumption) ?_
       rotate_left
       · intro W h; (try dsimp only at h); go_simp; try with_reducible rfl
       try simp only [Act.put,qk1,qk2,qk3,qk4,qk5,qk6]
       refine tkq 6 rfl (v := ?_) (.inl ⟨by rfl, ?_⟩) (by assumption) ?_
       rotate_left
       · intro W h; (try dsimp only at h); go_simp; try with_reducible rfl
       try simp only [Act.put,qk1,qk2,qk3,qk4,qk5,qk6]
       refine tkq 8 rfl (v := ?_) (.inl ⟨by rfl, ?_⟩) (by assumption) ?_
       rotate_left
       · intro W h; (try dsimp only at h); go_simp; try with_reducible rfl
       try simp only [Act.put,qk1,qk2,qk3,qk4,qk5,qk6]
       refine tkq 9 rfl (v := ?_) (.inl ⟨by rfl, ?_⟩) (by assumption) ?_
       rotate_left
       · intro W h; (try dsimp only at h); go_simp; try with_reducible rfl
       try simp only [Act.put,qk1,qk2,qk3,qk4,qk5,qk6]
       refine tkq 10 rfl (v := ?_) (.inl ⟨by rfl, ?_⟩) (by assumption) ?_
       rotate_left
       · intro W h; (try dsimp only at h); go_simp; try with_reducible rfl
       try simp only [Act.put,qk1,qk2,qk3,qk4,qk5,qk6]
       refine tkr 3 rfl (fun K hK => ?_)
       go_simp
       go_at_call 138
       refine (take_any (hasKey k) (rest) b8 bp u0 HR.out).mono ?_
       rintro e u1 ⟨rfl, hr, hg, hz⟩
       have HR := hD hr
       have HO := hD (HO.out.grown hg (by omega))
       have HV6 := hD (HV6.out.grown hg (by omega))
       have HB6 := hD (below_grown HB6.out HB6.out.size hg (fun g h => by simp only [Option.some.injEq] at h; omega))
       clear hr hg hz
       go_wp2_with fail
       have hSu1 : World.cell? u1 ⟨b6, 1, none⟩ = some (.bool (hasKey k)) ∧ World.cell? u1 ⟨b6, 2, none⟩ = some (.bool (hasOld k)) ∧ World.cell? u1 ⟨b6, 3, none⟩ = some (.bool (hasNew k)) := ⟨HV6.out.cells 1 _ rfl, HV6.out.cells 2 _ rfl, HV6.out.cells 3 _ rfl⟩
       refine hK.out _ _ hSu1 (fun hHeld => ?_)
       clear hK K
       try simp only [Act.put,qk1,qk2,qk3,qk4,qk5,qk6]
       refine tkq 12 rfl (v := ?_) (.inl ⟨by rfl, ?_⟩) (by assumption) ?_
       rotate_left
       · intro W h; (try dsimp only at h); go_simp; try with_reducible rfl
       try simp only [Act.put,qk1,qk2,qk3,qk4,qk5,qk6]
       refine tkr 7 rfl (fun K hK => ?_)
       go_simp
       go_at_call 138
       refine (take_any (hasOld k) (takeR (hasKey k) rest) b8 bp u1 HR.out).mono ?_
       rintro e u2 ⟨rfl, hr, hg, hz⟩
       have HR := hD hr
       have HO := hD (HO.out.grown hg (by omega))
       have HV6 := hD (HV6.out.grown hg (by omega))
       have HB6 := hD (below_grown HB6.out HB6.out.size hg (fun g h => by simp only [Option.some.injEq] at h; omega))
       clear hr hg hz
       go_wp2_with fail
       have hSu2 : World.cell? u2 ⟨b6, 1, none⟩ = some (.bool (hasKey k)) ∧ World.cell? u2 ⟨b6, 2, none⟩ = some (.bool (hasOld k)) ∧ World.cell? u2 ⟨b6, 3, none⟩ = some (.bool (hasNew k)) := ⟨HV6.out.cells 1 _ rfl, HV6.out.cells 2 _ rfl, HV6.out.cells 3 _ rfl⟩
       refine hK.out _ _ hSu2 (fun hHeld => ?_)
       clear hK K
       try simp only [Act.put,qk1,qk2,qk3,qk4,qk5,qk6]
       refine tkr 11 rfl (fun K hK => ?_)
       go_simp
       go_at_call 138
       refine (take_any (hasNew k) (takeR (hasOld k) (takeR (hasKey k) rest)) b8 bp u2 HR.out).mono ?_
       rintro e u3 ⟨rfl, hr, hg, hz⟩
       have HR := hD hr
       have HO := hD (HO.out.grown hg (by omega))
       have HV6 := hD (HV6.out.grown hg (by omega))
       have HB6 := hD (below_grown HB6.out HB6.out.size hg (fun g h => by simp only [Option.some.injEq] at h; omega))
       clear hr hg hz
       go_wp2_with fail
       have hSu3 : World.cell? u3 ⟨b6, 1, none⟩ = some (.bool (hasKey k)) ∧ World.cell? u3 ⟨b6, 2, none⟩ = some (.bool (hasOld k)) ∧ World.cell? u3 ⟨b6, 3, none⟩ = some (.bool (hasNew k)) := ⟨HV6.out.cells 1 _ rfl, HV6.out.cells 2 _ rfl, HV6.out.cells 3 _ rfl⟩
       refine hK.out _ _ hSu3 (fun hHeld => ?_)
       clear hK K
       try simp only [Act.put,qk1,qk2,qk3,qk4,qk5,qk6]
       have hsz : (takeF (hasKey k) rest).length + (takeF (hasOld k) (takeR (hasKey k) rest)).length + (takeF (hasNew k) (takeR (hasOld k) (takeR (hasKey k) rest))).length ≤ 1048576 := take_sizes (m := 300000) (fun y hy => Nat.le_trans (cut_len s.data.toList y (by rw [HC.out]; exact List.mem_cons_of_mem _ hy)) (by simpa using hs)) _ _ _
       have HQ : Hid ((opOkF k (takeF (hasKey k) rest) (takeF (hasOld k) (takeR (hasKey k) rest)) (takeF (hasNew k) (takeR (hasOld k) (takeR (hasKey k) rest))) && (opText k (takeF (hasKey k) rest) (takeF (hasOld k) (takeR (hasKey k) rest)) (takeF (hasNew k) (takeR (hasOld k) (takeR (hasKey k) rest))) == s.data.toList)) = kindOk k s.data.toList) := HKd
       generalize takeF (hasNew k) (takeR (hasOld k) (takeR (hasKey k) rest)) = new at hsz HQ ⊢
       generalize takeF (hasOld k) (takeR (hasKey k) rest) = old at hsz HQ ⊢
       generalize takeF (hasKey k) rest = key at hsz HQ ⊢
       refine tkr 13 rfl (fun K hK => ?_)
       have cz := HO.out.cells 1 _ rfl
       have fz := HO.out.free 1 (by simp)
       have lz := HO.out.lt
       go_simp
       have HO := hD (HO.out.set 1 (.string ⟨key.toArray⟩))
       have HV6 := hD (HV6.out.grown (grown_set u3 ⟨b7, 1, none⟩ (.string ⟨key.toArray⟩)) (by show b6 ≠ b7; omega))
       have HB6 := hD (below_gr HB6.out (grown_set u3 ⟨b7, 1, none⟩ (.string ⟨key.toArray⟩)) (by show w6.heap.size ≤ b7; omega))
       clear cz fz lz
       generalize u3.setCell ⟨b7, 1, none⟩ (.string ⟨key.toArray⟩) = u4 at HO HV6 HB6 ⊢
       have hSu4 : World.cell? u4 ⟨b6, 1, none⟩ = some (.bool (hasKey k)) ∧ World.cell? u4 ⟨b6, 2, none⟩ = some (.bool (hasOld k)) ∧ World.cell? u4 ⟨b6, 3, none⟩ = some (.bool (hasNew k)) := ⟨HV6.out.cells 1 _ rfl, HV6.out.cells 2 _ rfl, HV6.out.cells 3 _ rfl⟩
       refine hK.out _ _ hSu4 (fun hHeld => ?_)
       clear hK K
       try simp only [Act.put,qk1,qk2,qk3,qk4,qk5,qk6]
       refine tkq 14 rfl (v := ?_) (.inl ⟨by rfl, ?_⟩) (by assumption) ?_
       rotate_left
       · intro W h; (try dsimp only at h); go_simp; try with_reducible rfl
       try simp only [Act.put,qk1,qk2,qk3,qk4,qk5,qk6]
       refine tkr 15 rfl (fun K hK => ?_)
       have cz := HO.out.cells 2 _ rfl
       have fz := HO.out.free 2 (by simp)
       have lz := HO.out.lt
       go_simp
       have HO := hD (HO.out.set 2 (.string ⟨old.toArray⟩))
       have HV6 := hD (HV6.out.grown (grown_set u4 ⟨b7, 2, none⟩ (.string ⟨old.toArray⟩)) (by show b6 ≠ b7; omega))
       have HB6 := hD (below_gr HB6.out (grown_set u4 ⟨b7, 2, none⟩ (.string ⟨old.toArray⟩)) (by show w6.heap.size ≤ b7; omega))
       clear cz fz lz
       generalize u4.setCell ⟨b7, 2, none⟩ (.string ⟨old.toArray⟩) = u5 at HO HV6 HB6 ⊢
       have hSu5 : World.cell? u5 ⟨b6, 1, none⟩ = some (.bool (hasKey k)) ∧ World.cell? u5 ⟨b6, 2, none⟩ = some (.bool (hasOld k)) ∧ World.cell? u5 ⟨b6, 3, none⟩ = some (.bool (hasNew k)) := ⟨HV6.out.cells 1 _ rfl, HV6.out.cells 2 _ rfl, HV6.out.cells 3 _ rfl⟩
       refine hK.out _ _ hSu5 (fun hHeld => ?_)
       clear hK K
       try simp only [Act.put,qk1,qk2,qk3,qk4,qk5,qk6]
       refine tkq 16 rfl (v := ?_) (.inl ⟨by rfl, ?_⟩) (by assumption) ?_
       rotate_left
       · intro W h; (try dsimp only at h); go_simp; try with_reducible rfl
       try simp only [Act.put,qk1,qk2,qk3,qk4,qk5,qk6]
       refine tkr 17 rfl (fun K hK => ?_)
       have cz := HO.out.cells 3 _ rfl
       have fz := HO.out.free 3 (by simp)
       have lz := HO.out.lt
       go_simp
       have HO := hD (HO.out.set 3 (.string ⟨new.toArray⟩))
       have HV6 := hD (HV6.out.grown (grown_set u5 ⟨b7, 3, none⟩ (.string ⟨new.toArray⟩)) (by show b6 ≠ b7; omega))
       have HB6 := hD (below_gr HB6.out (grown_set u5 ⟨b7, 3, none⟩ (.string ⟨new.toArray⟩)) (by show w6.heap.size ≤ b7; omega))
       clear cz fz lz
       generalize u5.setCell ⟨b7, 3, none⟩ (.string ⟨new.toArray⟩) = u6 at HO HV6 HB6 ⊢
       have hSu6 : World.cell? u6 ⟨b6, 1, none⟩ = some (.bool (hasKey k)) ∧ World.cell? u6 ⟨b6, 2, none⟩ = some (.bool (hasOld k)) ∧ World.cell? u6 ⟨b6, 3, none⟩ = some (.bool (hasNew k)) := ⟨HV6.out.cells 1 _ rfl, HV6.out.cells 2 _ rfl, HV6.out.cells 3 _ rfl⟩
       refine hK.out _ _ hSu6 (fun hHeld => ?_)
       clear hK K
       try simp only [Act.put,qk1,qk2,qk3,qk4,qk5,qk6]
       refine wpAnyH_done (by kernel_rfl) ?_ _
       refine NoPanic.normal ?_
       clear hS0 hSu1 hSu2 hSu3 hSu4 hSu5 hSu6
       have HO := hD (HO.out.eq (cs' := [.int .i64 (k : Int), .string ⟨key.toArray⟩, .string ⟨old.toArray⟩, .string ⟨new.toArray⟩]) rfl)
       have HFm := hD (format_any k h1 h6 key old new u6 hsz)
       have o0 := HO.out.cells 0 _ rfl
       have o1 := HO.out.cells 1 _ rfl
       have o3 := HO.out.cells 2 _ rfl
       have o4 := HO.out.cells 3 _ rfl
       have ol := HO.out.lt
       go_wp2_with fail
       clear o0 o1 o3 o4 ol
       cases hq : opOkF k key old new with
       | false =>
        rw [hq] at HFm HQ
        have HK : Hid (kindOk k s.data.toList = false) := hD HQ.out.symm
        refine HFm.out.mono ?_
        rintro e u7 ⟨rfl, b7'⟩
        have HG := hD (ranges_below HG.out (bon HB6.out b7'))
        have HW7 := hD (bon HW6.out (bon HB6.out b7'))
        clear b7' hq
        go_wp2_with fail
        go_roundw
        case rel => exact ⟨_, cnt4, HG.out, HW7.out, left_step HN.out HK.out⟩
        case measure => rw [HG.out.left_eq, HGo.out.left_eq]; exact HLt.out
       | true =>
        rw [hq] at HFm HQ
        refine HFm.out.mono ?_
        rintro e u7 ⟨rfl, b7'⟩
        have HG := hD (ranges_below HG.out (bon HB6.out b7'))
        have HW7 := hD (bon HW6.out (bon HB6.out b7'))
        have HO := hD (HO.out.below b7')
        clear b7' hq
        by_cases ht : opText k key old new = s.data.toList
        · have t1 : (opText k key old new == s.toList) = true := by rw [Lib.toList_data]; simpa using ht
          have HF : Hid (opOk s.data.toList = true) := hD (opOk_of h1 h6 (by rw [← HQ.out, ht]; simp))
          have HRv := hD (HRv.out.below HW7.out)
          have HR2 := hD (HRv.out.sets [.int .i64 (k : Int), .string ⟨key.toArray⟩, .string ⟨old.toArray⟩, .string ⟨new.toArray⟩] rfl)
          have HB2 := hD (below_gr (bon HB.out HW7.out) (grown_vs (b := w.heap.size) [.int .i64 (k : Int), .string ⟨key.toArray⟩, .string ⟨old.toArray⟩, .string ⟨new.toArray⟩]) (Nat.le_refl _))
          clear ht
          go_wp2_with (first
           | (refine wpList_load_mid rfl 124 _ rfl b7 0 rfl [.int .i64 (k : Int), .string ⟨key.toArray⟩, .string ⟨old.toArray⟩, .string ⟨new.toArray⟩] _ HO.out.range Tryz.underlying124 rfl infoOpT ?_)
           | (refine wpList_store_mid rfl 124 _ _ rfl w.heap.size 0 #[.int .i64 (k : Int), .string ⟨key.toArray⟩, .string ⟨old.toArray⟩, .string ⟨new.toArray⟩] rfl rfl ?_ infoOpT (op4_one _ _ _ _) ?_; · exact HRv.out.there rfl))
          refine bodyPost_ret (v := .tuple #[.agg #[.int .i64 (k : Int), .string ⟨key.toArray⟩, .string ⟨old.toArray⟩, .string ⟨new.toArray⟩], .int .i64 0]) ?_ rfl (ret_par (ok := opOk s.data.toList) (by rw [HF.out]; rfl) HB2.out)
          exact results_mid_slot Tryz.results93 _ _ w.heap.size [.int .i64 (k : Int), .string ⟨key.toArray⟩, .string ⟨old.toArray⟩, .string ⟨new.toArray⟩] _ _ rfl rfl HR2.out.range Tryz.underlying124 rfl infoOpT
        · have t1 : (opText k key old new == s.toList) = false := by rw [Lib.toList_data]; simpa using ht
          have HK : Hid (kindOk k s.data.toList = false) := hD (by rw [← HQ.out]; simpa using ht)
          clear ht
          go_wp2_with fail
          go_roundw
          case rel => exact ⟨_, cnt4, HG.out, HW7.out, left_step HN.out HK.out⟩
          case measure => rw [HG.out.left_eq, HGo.out.left_eq]; exact HLt.out
end Go.Proofs.YtepbbaifpckcpaaGreatDoor
