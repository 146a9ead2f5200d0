/- The frame of the laws: from the walk to the row; arguments opened. -/
import Derived.Test.YthmoplkleopahaaDoorEntC
import Derived.ProofKit
import Derived.OpenShut
import Derived.Below
import Derived.ChangeSame
import Derived.Deep.DeepHandedRow
import Derived.Deep.Slices
import Derived.Deep.Fields
import Derived.Lib.LaidTab
import Derived.ReadAgain
import Derived.LaidSub
import Derived.MakeChecks
import Derived.Lib.SmallJoins
import Derived.Stop.LaidErr
namespace Go.Proofs.YthmoplkleopahaaDoor.frame
open Go.Joins Go.ChangeShapes Go.WideShapes Go.ChangeAt Go.RowKit Go.Deep
open Go.ChangeMaps (open_string shut_string)

theorem own : ownKnob Tryd.prog.godebug = none := by kernel_rfl
section
variable {H : Type} {enc : TypeId × Value → H} {P : Program}
/-- the row's last step where new memory may be frozen: what lay below is as it was -/
theorem post_of_below {f : Func} {s : ChangeSpec} {apart fresh handsOn again : Bool} {W W' : World} {args : Array Value} {v : Value} {ds gs : List (DataW H)} {before pa pv : List MemPlace}
    (hW : DataW.Whole enc P f.params.toList s.vars apart W args.toList ds gs before)
    (hres : ∀ (b : Nat) (sp : Nat → Bool) (hd : Bool), DataW.TrodAll enc P W' b sp hd f.resultTypes.toList (v.resultList f.resultTypes.size) (s.fn H (ds ++ gs)).results [])
    (hargs : ∀ sp : Nat → Bool, (∀ p ∈ before, sp p.block = true) → DataW.TrodAll enc P W' 0 sp true f.params.toList args.toList (s.fn H (ds ++ gs)).args pa)
    (hvars : ∀ sp : Nat → Bool, (∀ p ∈ before, sp p.block = true) → DataW.TrodVars enc P W' sp s.vars (s.fn H (ds ++ gs)).vars pv)
    (hps : before = pa ++ pv) (hb : Below W.heap.size W W')
    (hok : ∀ (j : Nat) (t : TypeId) (r : Value), f.resultTypes[j]? = some t → (v.resultList f.resultTypes.size)[j]? = some r → Value.okWide P W' .any 0 t r) :
    s.post enc P f apart fresh handsOn again W args v W' := by
  have low : ∀ p ∈ before, p.block < W.heap.size := fun p hp => hW.lt p hp
  have old : ∀ p ∈ before, (fun b => decide (b < W.heap.size)) p.block = true := fun p hp => by simpa using low p hp
  refine ⟨ds, gs, before, [], pa, pv, hW, hres _ _ _, hargs _ old, hvars _ old, World.keptBut_mono (fun p hp => ⟨hp, .inr (by rw [hps, List.mem_append] at hp; exact hp)⟩) (hb.frame (· ∈ before)), fun _ => ?_⟩
  obtain ⟨_, _, _, _, _, hz, hn⟩ := hW
  refine ⟨hok, _, _, ([] ++ pa) ++ pv, ⟨[] ++ pa, pv, trodAll_append (hargs _ (fun _ _ => rfl)) (hres _ _ _), hvars _ (fun _ _ => rfl), rfl, ?_, ?_⟩, ?_⟩
  · intro b off hp
    have hin : MemPlace.cell b off ∈ before := by rw [hps]; simpa using hp
    rw [hb.frozen (low _ hin)]
    exact hz b off hin
  · intro ha
    have := hn ha
    rw [hps] at this
    simpa using this
  · intro p hp _
    rw [hps]
    simpa using hp
end

section
variable {H : Type} {enc : TypeId × Value → H} {P : Program} {w w' : World} {base : Nat} {spare : Nat → Bool} {held : Bool}
theorem trodAll_below : ∀ {ts : List TypeId} {vs : List Value} {ds : List (DataW H)} {ps : List MemPlace}, DataW.TrodAll enc P w base spare held ts vs ds ps → (∀ p ∈ ps, w.sameAt w' p) → DataW.TrodAll enc P w' base spare held ts vs ds ps
  | [], vs, ds, ps, h, _ => by
    obtain ⟨rfl, rfl, rfl⟩ := trodAll_nil h
    exact trodAll_mk0
  | t :: ts, vs, ds, ps, h, hs => by
    obtain ⟨v, vs', d, ds', p, p', rfl, rfl, rfl, h1, h2⟩ := trodAll_cons h
    obtain ⟨n, hn⟩ := h1
    exact trodAll_cons_mk ⟨n, DataW.trod_carry n _ _ _ hn (fun q hq => hs q (List.mem_append_left _ hq))⟩ (trodAll_below h2 (fun q hq => hs q (List.mem_append_right _ hq)))
end
section
variable {H : Type} {enc : TypeId × Value → H} {P : Program} {T : TypeId → Prop}
/-- the law answers true, and what lay below is as it was: the row's last step, whatever the arguments are -/
theorem post_true {f : Func} {s : ChangeSpec} {W W' : World} {args : Array Value} {ds : List (DataW H)} {before : List MemPlace} (K : Kids P T) (hz : ∀ t e, T t → P.underlying t = some (.slice e) → 0 < P.cellsOf e)
    (hv : s.vars = []) (hT : ∀ t ∈ f.params.toList, T t) (hr : f.resultTypes = #[4]) (hbool : P.underlying 4 = some .bool) (hs : s.fn H (ds ++ []) = { results := [.lit (.bool true)], args := ds })
    (hW : DataW.Whole enc P f.params.toList s.vars false W args.toList ds [] before) (hb : Below W.heap.size W W') :
    s.post enc P f false true false false W args (.bool true) W' := by
  have hW' := hW
  obtain ⟨p, q, hA, hV, rfl, hfz, hnd⟩ := hW
  rw [hv] at hV
  obtain ⟨-, rfl⟩ := trodVars_none hV
  simp only [List.append_nil] at hW'
  have hlt : ∀ x ∈ p, x.block < W.heap.size := fun x hx => hW'.lt x hx
  have hA' : DataW.TrodAll enc P W' 0 (fun _ => true) true f.params.toList args.toList ds p := trodAll_below hA (fun x hx => hb.same (hlt x hx))
  refine post_of_below (pa := p) (pv := []) hW' (fun _ _ _ => ?_) (fun sp hsp => ?_) (fun _ _ => ?_) (by simp) hb ?_
  · rw [hs, hr]
    exact trodAll_cons_mk (shut_bool hbool _) trodAll_mk0
  · rw [hs]
    exact DataW.TrodAll.respare K hz hT hA' hsp
  · rw [hv, hs]
    rfl
  · exact ok_one (t := 4) hr rfl (okWide_bool_mk hbool _)
end
theorem kids : Kids Tryd.prog (· < Tryd.prog.types.size) := kids_rows (by kernel_rfl) (by kernel_rfl)
theorem full : ∀ t e, t < Tryd.prog.types.size → Tryd.prog.underlying t = some (.slice e) → 0 < Tryd.prog.cellsOf e := slices_full_of Tryd.prog (by kernel_rfl)
section
variable {H : Type} {enc : TypeId × Value → H} {P : Program} {w : World} {base : Nat} {spare : Nat → Bool} {held : Bool}
theorem open_slice_fields {t e : TypeId} {fs : Array Field} {fuel : Nat} {cs : List Value} {x : DataW H × List MemPlace} (ht : P.underlying t = some (.slice e)) (he : P.underlying e = some (.struct fs))
    (hone : oneCellFields P fs = true) (hC : P.cellsOf e = fs.size) (h : DataW.trod enc P w base spare held fuel t cs = some x) :
    (cs = [.slice none 0 0] ∧ x = (.nil, [])) ∨
    ∃ (a : Addr) (len cap m : Nat) (D : Nat → DataW H) (Pl : Nat → List MemPlace), cs = [.slice (some a) len cap] ∧ base ≤ a.block ∧ len ≤ cap ∧ cap ≤ maxLen ∧ m = (if spare a.block then cap else len) ∧
      x = (.slice ((List.range len).map D) ((List.range (m - len)).map fun j => D (len + j)), MemPlace.row a (m * fs.size) ++ (List.range m).flatMap Pl) ∧
      ∀ i, i < m → ∃ (ys : List (DataW H × List MemPlace)) (n : Nat), D i = .agg (ys.map (·.1)) ∧ Pl i = ys.flatMap (·.2) ∧ ys.length = fs.size ∧
        ∀ (j : Nat) (f : Field), fs[j]? = some f → ∃ (v : Value) (y : DataW H × List MemPlace), w.cell? (a.add (i * fs.size + j)) = some v ∧ ys[j]? = some y ∧ DataW.trod enc P w base spare held n f.type [v] = some y := by
  rcases open_slice ht h with h0 | ⟨a, len, cap, m, n, D, Pl, hcs, hb, hl, hm, hmm, hx, hi⟩
  · exact .inl h0
  · refine .inr ⟨a, len, cap, m, D, Pl, hcs, hb, hl, hm, hmm, by rw [hC] at hx; exact hx, fun i him => ?_⟩
    obtain ⟨cs', hc, ht'⟩ := hi i him
    rw [hC] at hc
    obtain ⟨ys, n', hn', hy, hlen, hyl, hf⟩ := DataW.trod_struct he ht'
    obtain ⟨_, hcl, hat⟩ := World.cells?_some hc
    simp only [Prod.mk.injEq] at hy
    refine ⟨ys, n', hy.1, hy.2, hyl, fun j f hj => ?_⟩
    obtain ⟨ho, hk⟩ := hone_of hone j f hj
    have hjl : j < fs.size := (Array.getElem?_eq_some_iff.1 hj).1
    have hcell := hat j hjl
    have hv : cs'[j]? = some (cs'[j]'(by omega)) := List.getElem?_eq_getElem (by omega)
    have h1 := hf j f hj
    rw [ho, hk] at h1
    have hone' : (cs'.drop j).take 1 = [cs'[j]'(by omega)] := by
      rw [List.drop_eq_getElem_cons (by omega)]
      rfl
    rw [hone'] at h1
    have hys : ys[j]? = some (ys[j]'(by omega)) := List.getElem?_eq_getElem (by omega)
    refine ⟨_, _, ?_, hys, h1.trans hys⟩
    rw [← Go.Deep.add_add, hcell, hv]
end
theorem list_of {α : Type} (P : Nat → α → Prop) : ∀ n : Nat, (∀ i, i < n → ∃ x, P i x) → ∃ l : List α, l.length = n ∧ ∀ (i : Nat) (hi : i < l.length), P i l[i]
  | 0, _ => ⟨[], rfl, fun i hi => by simp at hi⟩
  | n + 1, h => by
    obtain ⟨l, h1, h2⟩ := list_of P n (fun i hi => h i (by omega))
    obtain ⟨x, hx⟩ := h n (by omega)
    refine ⟨l ++ [x], by simp [h1], fun i hi => ?_⟩
    by_cases hlt : i < l.length
    · rw [List.getElem_append_left hlt]; exact h2 i hlt
    · have hi2 : i = n := by simp at hi; omega
      subst hi2
      rw [List.getElem_append_right (by omega)]
      simpa [h1] using hx
theorem wf_i64 {n : Int} (h : (Lit.int .i64 n).wf = true) : I64 n := by
  simp only [Lit.wf, IntKind.min, IntKind.max, IntKind.signed, IntKind.bits, decide_eq_true_eq, Bool.and_eq_true] at h
  unfold I64
  simp at h
  omega
section
variable {H : Type} {enc : TypeId × Value → H} {W : World}
/-- requests that came in -/
theorem reqs_in {fuel : Nat} {v : Value} {x : DataW H × List MemPlace} (h : DataW.trod enc Tryd.prog W 0 (fun _ => true) true fuel 22 [v] = some x) :
    ∃ (A : Option Addr) (c : Nat) (l : List Rq), v = .slice A l.length c ∧ RqIn W A c l ∧ ∀ r ∈ l, I64 r.client ∧ I64 r.number := by
  rcases open_slice_fields Tryd.underlying22 Tryd.underlying42 (by kernel_rfl) (by kernel_rfl) h with ⟨hv, _⟩ | ⟨a, len, cap, m, D, Pl, hv, _, hlc, hcm, hm, _, hf⟩
  · simp only [List.cons.injEq, and_true] at hv
    subst hv
    exact ⟨none, 0, [], rfl, ⟨Rd.nil _ _ _, by simp, by simp, by simp, by simp⟩, by simp⟩
  · simp only [List.cons.injEq, and_true] at hv
    subst hv
    obtain ⟨l, hl, hp⟩ := list_of (fun i (r : Rq) => (W.cell? (a.add (i * 3 + 0)) = some (.int .i64 r.client) ∧ W.cell? (a.add (i * 3 + 1)) = some (.int .i64 r.number) ∧ W.cell? (a.add (i * 3 + 2)) = some (.string ⟨r.op.toArray⟩)) ∧ I64 r.client ∧ I64 r.number ∧ r.op.length ≤ maxLen) len (fun i hi => by
      obtain ⟨ys, n, _, _, _, hfj⟩ := hf i (by rw [hm, if_pos rfl]; omega)
      obtain ⟨v0, y0, c0, _, t0⟩ := hfj 0 _ rfl
      obtain ⟨v1, y1, c1, _, t1⟩ := hfj 1 _ rfl
      obtain ⟨v2, y2, c2, _, t2⟩ := hfj 2 _ rfl
      obtain ⟨n0, e0, _, w0⟩ := DataW.trod_int Tryd.underlying3 t0
      obtain ⟨n1, e1, _, w1⟩ := DataW.trod_int Tryd.underlying3 t1
      obtain ⟨s2, e2, _, l2⟩ := DataW.trod_string Tryd.underlying9 t2
      simp only [List.cons.injEq, and_true] at e0 e1 e2
      subst e0 e1 e2
      exact ⟨⟨n0, n1, s2.data.toList⟩, ⟨c0, c1, c2⟩, wf_i64 w0, wf_i64 w1, by simpa using l2⟩)
    have hmx : maxLen = 9223372036854775807 := by decide
    refine ⟨some a, cap, l, by rw [hl], ⟨⟨flat_len rqC 3 rqC_len l, fun h0 => ?_⟩, by omega, by omega, by omega, fun r hr => ?_⟩, fun r hr => ?_⟩
    · have hpos : 0 < l.length := by rw [flat_len rqC 3 rqC_len l] at h0; omega
      obtain ⟨b, o, sp⟩ := a
      have hsp : sp = none := by simpa [Addr.add] using World.cell?_spot (hp 0 hpos).1.1
      subst hsp
      refine ⟨b, o, rfl, World.block_lt_of_cell? W _ (hp 0 hpos).1.1, fun j u hu => ?_⟩
      have hj : j < (l.flatMap rqC).length := (List.getElem?_eq_some_iff.1 hu).1
      rw [flat_len rqC 3 rqC_len l] at hj
      have hk : j / 3 < l.length := by omega
      have hj2 : j / 3 * 3 + j % 3 = j := by omega
      have h1 := flat_get rqC 3 rqC_len l (j / 3) hk (j % 3) (by omega)
      rw [hj2, hu] at h1
      obtain ⟨⟨d0, d1, d2⟩, _⟩ := hp (j / 3) hk
      rw [add_plain'] at d0 d1 d2
      have h3 : j % 3 = 0 ∨ j % 3 = 1 ∨ j % 3 = 2 := by omega
      rcases h3 with h3 | h3 | h3 <;> rw [h3] at h1 hj2 <;> rw [hj2] at * <;> simp only [rqC, List.getElem?_cons_zero, List.getElem?_cons_succ, Option.some.injEq] at h1 <;> subst h1 <;> assumption
    · obtain ⟨i, hi, rfl⟩ := List.getElem_of_mem hr
      have := (hp i hi).2.2.2
      omega
    · obtain ⟨i, hi, rfl⟩ := List.getElem_of_mem hr
      exact ⟨(hp i hi).2.1, (hp i hi).2.2.1⟩

set_option maxRecDepth 100000 in
theorem entry_in {base : Nat} {v : Value} {d : DataW H} {p : List MemPlace} (hv : Value.okWide Tryd.prog W .any base 24 v) (h : DataW.Trod enc Tryd.prog W 0 (fun _ => true) true 24 v d p) :
    ∃ (kind cfg : Int) (A : Option Addr) (c : Nat) (l : List Rq), v = .agg #[.int .i64 kind, .int .i64 cfg, .slice A l.length c] ∧ RqIn W A c l ∧ I64 cfg ∧ ∀ r ∈ l, I64 r.client ∧ I64 r.number := by
  obtain ⟨v0, v1, v2, y0, y1, y2, n, rfl, _, _, h0, h1, h2⟩ := open_agg3 Tryd.underlying24 (by kernel_rfl) (by kernel_rfl) hv h
  obtain ⟨n0, e0, _, w0⟩ := DataW.trod_int Tryd.underlying3 h0
  obtain ⟨n1, e1, _, w1⟩ := DataW.trod_int Tryd.underlying3 h1
  obtain ⟨A, c, l, e2, hq, hi⟩ := reqs_in h2
  simp only [List.cons.injEq, and_true] at e0 e1
  subst e0 e1 e2
  exact ⟨n0, n1, A, c, l, rfl, hq, wf_i64 w1, hi⟩
end
theorem star : "*" ++ "errors.errorString" = "*errors.errorString" := by decide
theorem rowErr (u : TypeId) (h : Tryd.prog.typeName? 3 u = some "*errors.errorString") : u = 111 :=
  typeName_ptr_named (nm := "errors.errorString") (by rw [star]; kernel_rfl) (by kernel_rfl) (by decide) u (by rw [star]; exact h)
set_option maxRecDepth 100000 in
theorem env_of_laid {W : World} (h : laidMetH Tryd.prog Rows.entryValidRow.laid W) : Env W where
  pow := by
    have h2 := h.filter (fun x => x.1 == "internal/strconv.uint64pow10")
    rw [Go.MakeChecks.laidMetH_plain _ _ _ (by kernel_rfl)] at h2
    exact Lib.tabIs_of_head (rest := []) (t := 116) (e := 81) (n := 20) (g := 2) (by kernel_rfl) (by kernel_rfl) (by kernel_rfl) (by kernel_rfl) (by kernel_rfl) (by kernel_rfl) h2
  syn := by
    have h2 := h.filter (fun x => x.1 == "strconv.ErrSyntax")
    rw [Go.MakeChecks.laidMetH_plain _ _ _ (by kernel_rfl)] at h2
    have hg : Tryd.prog.globalNamed "strconv.ErrSyntax" = some 0 := by kernel_rfl
    obtain ⟨a0, s0, hv0, _⟩ := laid_sentinel (r := []) h2 hg (by kernel_rfl) Tryd.underlying56 rowErr Tryd.underlying111 Tryd.underlying113 rfl rfl Tryd.underlying9 (by kernel_rfl) (by kernel_rfl)
    exact ⟨_, _, by have h0 := World.var?_cell hg hv0 0; simpa using h0⟩
  rng := by
    have h2 := h.filter (fun x => x.1 == "strconv.ErrRange")
    rw [Go.MakeChecks.laidMetH_plain _ _ _ (by kernel_rfl)] at h2
    have hg : Tryd.prog.globalNamed "strconv.ErrRange" = some 1 := by kernel_rfl
    obtain ⟨a0, s0, hv0, _⟩ := laid_sentinel (r := []) h2 hg (by kernel_rfl) Tryd.underlying56 rowErr Tryd.underlying111 Tryd.underlying113 rfl rfl Tryd.underlying9 (by kernel_rfl) (by kernel_rfl)
    exact ⟨_, _, by have h0 := World.var?_cell hg hv0 0; simpa using h0⟩
end Go.Proofs.YthmoplkleopahaaDoor.frame
