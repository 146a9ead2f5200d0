/- The contract of entry.Decode: a batch. -/
import Derived.Test.YthmoplkleopahaaDoorEntG
namespace Go.Proofs.YthmoplkleopahaaDoor
open Go.RowKit

theorem readE_batch (h : List UInt8) (t : List (List UInt8)) (h1 : ¬ (h = wJoin ∧ t.length = 1)) (h2 : h ≠ wFinish) : readE (h :: t) = ⟨1, 0, trip t⟩ := by
  rw [readE, if_neg h1, if_neg h2]
theorem infoR : (Tryd.prog.info? 42).map (fun i => (i.zero, i.size, i.bytes)) = some (some (.agg #[.int .i64 0, .int .i64 0, .string ⟨#[]⟩]), 3, 32) := by kernel_rfl
theorem O3.drew {w : World} {b : Nat} {x y z : Value} (h : O3 w b x y z) : O3 w.drew b x y z := ⟨h.lt, h.c0, h.c1, h.c2, h.f0, h.f1, h.f2⟩
theorem O3.alloc {w : World} {b : Nat} {x y z : Value} (h : O3 w b x y z) (o : Obj) : O3 (w.alloc o) b x y z := h.below (below_new w o)
theorem O3.grown {w w' : World} {row : Option Nat} {b : Nat} {x y z : Value} (h : O3 w b x y z) (hg : w.grownBy w' row) (hne : some b ≠ row) : O3 w' b x y z where
  lt := Nat.lt_of_lt_of_le h.lt hg.size
  c0 := (hg.cell_far ⟨b, 0, none⟩ h.lt hne).trans h.c0
  c1 := (hg.cell_far ⟨b, 1, none⟩ h.lt hne).trans h.c1
  c2 := (hg.cell_far ⟨b, 2, none⟩ h.lt hne).trans h.c2
  f0 := (hg.frozen_far ⟨b, 0, none⟩ h.lt hne).trans h.f0
  f1 := (hg.frozen_far ⟨b, 1, none⟩ h.lt hne).trans h.f1
  f2 := (hg.frozen_far ⟨b, 2, none⟩ h.lt hne).trans h.f2
theorem own_max {w : World} {base e k n : Nat} {A : Option Addr} {c : Nat} {xs : List Value} (h : w.ownsRow base e k (.slice A n c) n xs) : c ≤ 9223372036854775807 := by
  rcases h.2 with ⟨h1, h2⟩ | ⟨g, cap, cur, hv, _, _, _, hm, _⟩
  · injection h1 with _ _ h3
    omega
  · injection hv with _ _ h3
    subst h3
    unfold maxLen at hm
    omega
theorem ownsRow_far {w : World} {base e k n g cap : Nat} {xs : List Value} (h : w.ownsRow base e k (.slice (some ⟨g, 0, none⟩) n cap) n xs) (p : Addr) (v : Value) (_hn : n ≠ 0) (hp : p.block < base) : (w.setCell p v).ownsRow base e k (.slice (some ⟨g, 0, none⟩) n cap) n xs := by
  refine ⟨h.1, ?_⟩
  rcases h.2 with h1 | ⟨g', cap', cur, hv, hge, hg, rest⟩
  · exact .inl h1
  · exact .inr ⟨g', cap', cur, hv, hge, (Below.heap_setCell w p v g' (by omega)).trans hg, rest⟩
def lenOf : Value → Nat
  | .slice _ n _ => n
  | _ => 0
theorem trip_short (ls : List (List UInt8)) (h : ls.length < 3) : trip ls = [] := by
  match ls, h with
  | [], _ => rfl
  | [_], _ => rfl
  | [_, _], _ => rfl
theorem trip_all (k : Nat) (ls : List (List UInt8)) (h : ∀ x ∈ ls, x.length ≤ k) : (∀ r ∈ trip ls, I64 r.client ∧ I64 r.number ∧ r.op.length ≤ k) ∧ 3 * (trip ls).length ≤ ls.length := by
  match ls with
  | [] => simp [trip]
  | [_] => simp [trip]
  | [_, _] => simp [trip]
  | a :: b :: c :: r =>
    obtain ⟨i1, i2⟩ := trip_all k r (fun x hx => h x (by simp [hx]))
    refine ⟨?_, by simp only [trip, List.length_cons]; omega⟩
    intro q hq
    simp only [trip] at hq
    rcases List.mem_cons.1 hq with rfl | hq
    · exact ⟨atoi0_i64 a, atoi0_i64 b, h c (by simp)⟩
    · exact i1 q hq
set_option maxRecDepth 100000 in
set_option maxHeartbeats 4000000 in
theorem decode_batch (s h : List UInt8) (t : List (List UInt8)) (w : World) (he : Env w) (hs : s.length ≤ 2100) (n : Nat) (hg : getList s = some (h :: t, n)) (hj : ¬ (h = wJoin ∧ t.length = 1)) (hf : h ≠ wFinish) :
    Calls Tryd.prog 17 #[.string ⟨s.toArray⟩] w (RetDec (decE s) w) := by
  have B0 := Lib.hid (below_new w (.cells #[.int .i64 0, .int .i64 0, .slice none 0 0] 24))
  have HL := Lib.hid (retL_some (getList_any ⟨s.toArray⟩ (w.alloc (.cells #[.int .i64 0, .int .i64 0, .slice none 0 0] 24)) (by rw [size_mk]; omega)) hg)
  obtain ⟨en, hen⟩ : ∃ en, en = readE (h :: t) := ⟨_, rfl⟩
  have HD : Hid (decE s = if vEn en = 0 ∧ valE en = s then some en else none) := Lib.hid (by rw [hen]; exact decE_read hg)
  have HEq : Hid (en = ⟨1, 0, trip t⟩) := Lib.hid (by rw [hen]; exact readE_batch h t hj hf)
  clear hen
  have hlen := (getList_len hg).1
  have HLen : Hid (∀ x ∈ t, x.length ≤ 2100) := Lib.hid (fun x hx => Nat.le_trans ((getList_len hg).2 x (by simp [hx])) hs)
  have HE := Lib.hid he
  have HR := Lib.hid (O3.new w (.int .i64 0) (.int .i64 0) (.slice none 0 0) 24)
  obtain ⟨i0, hi, hz0, hz1, hz2⟩ := info_parts infoR
  have HI := Lib.hid hi
  have HZ0 := Lib.hid hz0
  have HZ1 := Lib.hid hz1
  have HZ2 := Lib.hid hz2
  clear hi hz0 hz1 hz2 hg he
  simp only [List.length_cons] at hlen
  have htc : ((t.length : Int) + 1 == 0) = false := by rw [beq_eq_false_iff_ne]; omega
  have hf1 : (h == [102, 105, 110, 105, 115, 104]) = false := by rw [beq_eq_false_iff_ne]; exact hf
  have hf2 : ¬ h = [102, 105, 110, 105, 115, 104] := hf
  go_enter Tryd.func17, Tryd.ntmps17
  go_wp2_with fail
  refine HL.out.mono ?_
  rintro e w1 ⟨⟨A, c, rfl, r1, hc⟩, b1⟩
  have B1 := Lib.hid (bon B0.out b1)
  have HR1 := Lib.hid (HR.out.below b1)
  obtain ⟨g, o, rfl, hgl, hcc⟩ := r1.cells (by simp [strC])
  have a0 : w1.cell? ⟨g, o, none⟩ = some (.string ⟨h.toArray⟩) := by simpa [strC] using hcc 0 _ rfl
  have HT : Hid (Rd w1 1 (some ⟨g, o + 1, none⟩) t.length (strC t)) := Lib.hid ⟨by simp [strC], fun hp => ⟨g, o + 1, rfl, hgl, fun j u hu => by rw [Nat.add_assoc, Nat.add_comm 1 j]; exact hcc (j + 1) u (by simpa [strC] using hu)⟩⟩
  have hc' : t.length + 1 ≤ c := hc
  simp only [List.length_cons]
  have hc2 : (1 : Int) ≤ (c : Int) := by omega
  have hn1 := HR1.out.lt
  have HO1 := Lib.hid (O3.new w1 (.int .i64 1) (.int .i64 0) (.slice none 0 0) 24)
  clear b1 r1 hcc hc
  have hways : (c = 1 ∧ t = []) ∨ c ≠ 1 := by
    by_cases hc1 : c = 1
    · exact .inl ⟨hc1, List.eq_nil_of_length_eq_zero (by omega)⟩
    · exact .inr hc1
  have hj1 : ((h == [106, 111, 105, 110]) = false ∧ ¬ h = [106, 111, 105, 110]) ∨ (h = [106, 111, 105, 110] ∧ ((t.length : Int) == 1) = false) := by
    by_cases h1 : h = [106, 111, 105, 110]
    · refine .inr ⟨h1, ?_⟩
      rw [beq_eq_false_iff_ne]
      intro h2
      exact hj ⟨h1, by omega⟩
    · exact .inl ⟨by rw [beq_eq_false_iff_ne]; exact h1, h1⟩
  clear hj hf
  rcases hways with ⟨rfl, rfl⟩ | hc1 <;> rcases hj1 with ⟨hj1, hj2⟩ | ⟨rfl, hj1⟩
  all_goals (try simp only [List.length_nil, Nat.zero_add])
  all_goals
    go_wp2_with fail
    go_loopw [8] (fun r wr => ∃ (A2 : Option Addr) (c2 : Nat) (ls : List (List UInt8)) (done : List Rq) (A3 : Option Addr) (c3 : Nat), r = .slice A2 ls.length c2 ∧ ls.length ≤ c2 ∧ Rd w1 1 A2 ls.length (strC ls) ∧ (∀ x ∈ ls, x.length ≤ 2100) ∧ ls.length ≤ 2100 ∧ 3 * done.length + ls.length ≤ 2100 ∧
      en = ⟨1, 0, done ++ trip ls⟩ ∧ (∀ r ∈ done, I64 r.client ∧ I64 r.number ∧ r.op.length ≤ 2100) ∧
      O3 wr w1.heap.size (.int .i64 1) (.int .i64 0) (.slice A3 done.length c3) ∧ wr.ownsRow (w1.heap.size + 1) 42 3 (.slice A3 done.length c3) done.length (done.flatMap rqC) ∧ Below w1.heap.size w1 wr ∧ w1.heap.size + 1 ≤ wr.heap.size)
      (fun r _ => lenOf r)
    case atStart =>
      first
        | exact ⟨_, _, t, [], none, 0, rfl, by omega, HT.out, HLen.out, by omega, by simp only [List.length_nil]; omega, HEq.out, by simp, HO1.out, World.ownsRow_nil _ _ _ _, below_new w1 _, by simp⟩
        | exact ⟨_, _, [], [], none, 0, rfl, by simp, Rd.nil _ _ _, by simp, by simp, by simp, HEq.out, by simp, HO1.out, World.ownsRow_nil _ _ _ _, below_new w1 _, by simp⟩
    case round =>
      obtain ⟨A2, c2, ls, done, A3, c3, rfl, hlc, hrd, hls, hll, hdl, hre, hdn, ho3, hown, hb, hge⟩ := hrel
      have HRd := Lib.hid hrd
      have HLs := Lib.hid hls
      have HRe := Lib.hid hre
      have HDn := Lib.hid hdn
      have HO := Lib.hid ho3
      have HOwn := Lib.hid hown
      have HB := Lib.hid hb
      clear hrd hls hre hdn ho3 hown hb
      by_cases h3 : 3 ≤ ls.length
      · match ls, h3 with
        | a :: b :: d :: r, _ =>
          obtain ⟨g2, o2, rfl, hg2, hcc⟩ := HRd.out.cells (by simp [strC])
          have e0 : ∀ W, Below w1.heap.size w1 W → W.cell? ⟨g2, o2, none⟩ = some (.string ⟨a.toArray⟩) := fun W hW => (hW.cell (p := ⟨g2, o2, none⟩) hg2).trans (by simpa using hcc 0 _ rfl)
          have e1 : ∀ W, Below w1.heap.size w1 W → W.cell? ⟨g2, o2 + 1, none⟩ = some (.string ⟨b.toArray⟩) := fun W hW => (hW.cell (p := ⟨g2, o2 + 1, none⟩) hg2).trans (by simpa using hcc 1 _ rfl)
          have e2 : ∀ W, Below w1.heap.size w1 W → W.cell? ⟨g2, o2 + 2, none⟩ = some (.string ⟨d.toArray⟩) := fun W hW => (hW.cell (p := ⟨g2, o2 + 2, none⟩) hg2).trans (by simpa using hcc 2 _ rfl)
          have E0 := Lib.hid e0
          have E1 := Lib.hid e1
          have E2 := Lib.hid e2
          have HR4 : Hid (Rd w1 1 (some ⟨g2, o2 + 3, none⟩) r.length (strC r)) := Lib.hid ⟨by simp [strC], fun hp => ⟨g2, o2 + 3, rfl, hg2, fun j u hu => by rw [Nat.add_assoc, Nat.add_comm 3 j]; exact hcc (j + 3) u (by simpa [strC] using hu)⟩⟩
          have ha := HLs.out a (by simp)
          have hbl := HLs.out b (by simp)
          have hd := HLs.out d (by simp)
          have HLs2 : Hid (∀ x ∈ r, x.length ≤ 2100) := Lib.hid (fun x hx => HLs.out x (by simp [hx]))
          have HAT : Hid (∀ (x : List UInt8) (W : World), x.length ≤ 2100 → Below w1.heap.size w1 W → Calls Tryd.prog 36 #[.string ⟨x.toArray⟩] W (RetNum (atoi0 x) W)) := Lib.hid (fun x W hx hW => atoi_any ⟨x.toArray⟩ (by rw [size_mk]; omega) W (HE.out.below (bon B1.out hW)))
          clear e0 e1 e2 hcc
          simp only [List.length_cons] at hlc hll hdl ⊢
          have k3 : (3 : Int) ≤ ((r.length + 1 + 1 + 1 : Nat) : Int) := by omega
          have k4 : ((r.length + 1 + 1 + 1 : Nat) : Int) ≤ (c2 : Int) := by omega
          have x0 := E0.out wr HB.out
          go_wp2_with fail
          refine (HAT.out a _ ha HB.out).mono ?_
          rintro e w2 ⟨⟨ev, rfl⟩, b2⟩
          have HB2 := Lib.hid (bon HB.out b2)
          have HO2 := Lib.hid (HO.out.below b2)
          have HOwn2 := Lib.hid (ownsRow_below HOwn.out b2)
          have hz2 := b2.size
          clear b2 x0
          have x1 := E1.out w2 HB2.out
          go_wp2_with fail
          refine (HAT.out b _ hbl HB2.out).mono ?_
          rintro e w3 ⟨⟨ev3, rfl⟩, b3⟩
          have HB3 := Lib.hid (bon HB2.out b3)
          have HO3 := Lib.hid (HO2.out.below b3)
          have HOwn3 := Lib.hid (ownsRow_below HOwn2.out b3)
          have hz3 := b3.size
          clear b3 x1
          have x2 := E2.out w3 HB3.out
          have p2 := HO3.out.c2
          have hlt3 := HO3.out.lt
          have k2 : (2 : Int) < (r.length : Int) + 1 + 1 + 1 := by omega
          have k2n : 2 < r.length + 1 + 1 + 1 := by omega
          have k2 : (2 : Int) < (r.length : Int) + 1 + 1 + 1 := by omega
          have k2n : 2 < r.length + 1 + 1 + 1 := by omega
          have hob : some w1.heap.size ≠ (Value.slice A3 done.length c3).ownBlock := by
            intro h0
            have := (HOwn3.out.lt w1.heap.size h0.symm).1
            omega
          go_wp2_with fail
          go_region_law (refine step_append_lies _ (by rfl) _ _ _ (by rfl) (w1.heap.size + 1) 42 i0 _ 3 32 Tryd.underlying22 HI.out HZ0.out HZ1.out HZ2.out rfl (by decide) _ _ _ (by rfl) ((HOwn3.out.alloc _).drew) _ 1 1 [.int .i64 (atoi0 a), .int .i64 (atoi0 b), .string ⟨d.toArray⟩] (by rfl) (by rfl) (World.news_of_block (cs := #[.int .i64 (atoi0 a), .int .i64 (atoi0 b), .string ⟨d.toArray⟩]) (t := 42) (fr := (0, 0)) (heap_alloc_new _ _)) (by simp [Value.oneCell']) (by omega) (by simp [maxLen]; omega) (by omega) (by simp; omega) _ rfl ?_; intro gg cap w4 hown1 hgrow hat hlt4; have HO4 := Lib.hid (O3.grown ((HO3.out.alloc _).drew) hgrow hob); have q2 := HO4.out.c2; have qf2 := HO4.out.f2)
          all_goals
            have HOwn4 := Lib.hid hown1
            have HG4 := Lib.hid hgrow
            clear hown1 hgrow hat
            have hbg : Below w1.heap.size w1 w4 := below_grown ((HB3.out.alloc (by omega) _).drew) (by simp; omega) HG4.out (fun g hg => by have := (HOwn3.out.lt g hg).1; omega)
            have HB5 := Lib.hid (hbg.setCell (p := ⟨w1.heap.size, 2, none⟩) (Nat.le_refl _) (.slice (some ⟨gg, 0, none⟩) (done.length + 1) cap))
            have HO5 := Lib.hid (HO4.out.set2 (.slice (some ⟨gg, 0, none⟩) (done.length + 1) cap))
            have hz5 : w3.heap.size + 1 ≤ w4.heap.size := by have := HG4.out.size; simpa using this
            have HOwn5 : Hid ((w4.setCell ⟨w1.heap.size, 2, none⟩ (.slice (some ⟨gg, 0, none⟩) (done.length + 1) cap)).ownsRow (w1.heap.size + 1) 42 3 (.slice (some ⟨gg, 0, none⟩) (done.length + 1) cap) (done.length + 1) ((done ++ [(⟨atoi0 a, atoi0 b, d⟩ : Rq)]).flatMap rqC)) := Lib.hid (ownsRow_far (by have h9 := HOwn4.out; simpa [rqC] using h9) _ _ (by simp) (by show w1.heap.size < w1.heap.size + 1; omega))
            have hlen9 : (done ++ [(⟨atoi0 a, atoi0 b, d⟩ : Rq)]).length = done.length + 1 := by simp
            have HRe2 : Hid (en = ⟨1, 0, (done ++ [(⟨atoi0 a, atoi0 b, d⟩ : Rq)]) ++ trip r⟩) := Lib.hid (by rw [HRe.out]; simp [trip])
            have HDn2 : Hid (∀ r ∈ done ++ [(⟨atoi0 a, atoi0 b, d⟩ : Rq)], I64 r.client ∧ I64 r.number ∧ r.op.length ≤ 2100) := Lib.hid (fun q hq => by
              simp only [List.mem_append, List.mem_cons, List.not_mem_nil, or_false] at hq
              rcases hq with hq | rfl
              · exact HDn.out q hq
              · exact ⟨atoi0_i64 a, atoi0_i64 b, hd⟩)
            clear p2 q2 qf2 hbg
            by_cases hc3 : c2 = 3
            · have hr0 : r = [] := List.eq_nil_of_length_eq_zero (by omega)
              subst hr0 hc3
              go_wp2_with fail
              go_roundw
              case rel => exact ⟨_, _, [], _, some ⟨gg, 0, none⟩, cap, rfl, by simp, Rd.nil _ _ _, by simp, by simp, by rw [hlen9]; simp; omega, HRe2.out, HDn2.out, by rw [hlen9]; exact HO5.out, by rw [hlen9]; exact HOwn5.out, HB5.out, by simp; omega⟩
              case measure => simp [lenOf]
            · go_wp2_with fail
              go_roundw
              case rel => exact ⟨_, _, r, _, some ⟨gg, 0, none⟩, cap, rfl, by omega, HR4.out, HLs2.out, by omega, by rw [hlen9]; omega, HRe2.out, HDn2.out, by rw [hlen9]; exact HO5.out, by rw [hlen9]; exact HOwn5.out, HB5.out, by simp; omega⟩
              case measure => simp only [lenOf]; omega
      · have HEn : Hid (en = ⟨1, 0, done⟩) := Lib.hid (by rw [HRe.out, trip_short ls (by omega), List.append_nil])
        have h3' : ¬ (3 : Int) ≤ (ls.length : Int) := by omega
        have B3 := Lib.hid (bon B1.out HB.out)
        have HR3 := Lib.hid (HR1.out.below HB.out)
        have HO3 := Lib.hid HO.out
        have hdn := HDn.out
        have HQ3 : Hid (RqIn wr A3 c3 done) := Lib.hid ⟨Rd.own HOwn.out, own_cap HOwn.out, own_max HOwn.out, by omega, fun r hr => by have := (hdn r hr).2.2; omega⟩
        clear hdn h3
        obtain ⟨hltx, p0, p1, p2, f0, f1, f2⟩ := HO3.out
        obtain ⟨wx, hwx⟩ : ∃ wx, wx = wr := ⟨_, rfl⟩
        subst hwx
        go_wp2_with fail
        clear p0 p1 p2 f0 f1 f2
        have HVal := enValid_any 1 0 done A3 c3 wx HQ3.out
        by_cases hv : vEn ⟨1, 0, done⟩ = 0
        · rw [hv] at HVal
          refine HVal.mono ?_
          rintro e w3 ⟨rfl, b3⟩
          have B4 := Lib.hid (bon B3.out b3)
          have HR4 := Lib.hid (HR3.out.below b3)
          have HO4 := Lib.hid (HO3.out.below b3)
          have HQ4 := Lib.hid (HQ3.out.below b3)
          obtain ⟨hlt4, p0, p1, p2, f0, f1, f2⟩ := HO4.out
          clear b3
          go_wp2_with fail
          have HVl := value_any 1 0 done A3 c3 w3 (HE.out.below B4.out) HQ4.out (by omega) (fun r hr => by have h9 := HDn.out r hr; exact ⟨h9.1, h9.2.1, by omega⟩) ⟨by decide, by decide⟩
          by_cases hq : valE ⟨1, 0, done⟩ = s
          · rw [hq] at HVl
            refine HVl.mono ?_
            rintro e w4 ⟨rfl, b4⟩
            have B5 := Lib.hid (bon B4.out b4)
            have HR5 := Lib.hid (HR4.out.below b4)
            have HO5 := Lib.hid (HO4.out.below b4)
            have HQ5 := Lib.hid (HQ4.out.below b4)
            have HY : Hid (decE s = some ⟨1, 0, done⟩) := Lib.hid (by rw [HD.out, HEn.out, if_pos ⟨hv, hq⟩])
            clear b4 p0 p1 p2 f0 f1 f2 hv hq
            obtain ⟨hlt5, p0, p1, p2, f0, f1, f2⟩ := HO5.out
            obtain ⟨hlt6, r0, r1, r2, s0, s1, s2⟩ := HR5.out
            go_wp2_with fail
            refine bodyPost_ret (v := .tuple #[.agg #[.int .i64 1, .int .i64 0, .slice A3 done.length c3], .int .i64 0]) (by simp [results, Tryd.results17, go_sem, r0, r1, r2]) rfl (ret_d_some HY.out (((B5.out.setCell (Nat.le_refl _) _).setCell (Nat.le_refl _) _).setCell (Nat.le_refl _) _) rfl ?_)
            exact rqIn_sets HQ5.out (fun a ha hbk => by subst ha; have h9 := (HOwn.out.lt a.block rfl).1; omega) _ _ _
          · have HY : Hid (decE s = none) := Lib.hid (by rw [HD.out, HEn.out, if_neg (fun h => hq h.2)])
            have hq1 : (valE ⟨1, 0, done⟩ == s) = false := by simpa using hq
            generalize valE ⟨1, 0, done⟩ = v at HVl hq1 hq
            refine HVl.mono ?_
            rintro e w4 ⟨rfl, b4⟩
            have B5 := Lib.hid (bon B4.out b4)
            have HR5 := Lib.hid (HR4.out.below b4)
            clear b4 p0 p1 p2 f0 f1 f2 hv hq
            obtain ⟨hlt6, r0, r1, r2, s0, s1, s2⟩ := HR5.out
            go_wp2_with fail
            exact bodyPost_ret (v := .tuple #[.agg #[.int .i64 0, .int .i64 0, .slice none 0 0], .int .i64 2]) (by simp [results, Tryd.results17, go_sem, r0, r1, r2]) rfl (ret_d_none HY.out (((B5.out.setCell (Nat.le_refl _) _).setCell (Nat.le_refl _) _).setCell (Nat.le_refl _) _))
        · have HY : Hid (decE s = none) := Lib.hid (by rw [HD.out, HEn.out, if_neg (fun h => hv h.1)])
          generalize vEn ⟨1, 0, done⟩ = v at HVal hv
          have hv1 : (v == 0) = false := by simpa using hv
          have hv2 : (v != 0) = true := by simpa using hv
          refine HVal.mono ?_
          rintro e w3 ⟨rfl, b3⟩
          have B4 := Lib.hid (bon B3.out b3)
          have HR4 := Lib.hid (HR3.out.below b3)
          clear b3 hv
          obtain ⟨hlt6, r0, r1, r2, s0, s1, s2⟩ := HR4.out
          go_wp2_with fail
          exact bodyPost_ret (v := .tuple #[.agg #[.int .i64 0, .int .i64 0, .slice none 0 0], .int .i64 2]) (by simp [results, Tryd.results17, go_sem, r0, r1, r2]) rfl (ret_d_none HY.out (((B4.out.setCell (Nat.le_refl _) _).setCell (Nat.le_refl _) _).setCell (Nat.le_refl _) _))
end Go.Proofs.YthmoplkleopahaaDoor
