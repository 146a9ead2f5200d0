/- The frame of a law that answers true and only makes new memory, whatever its arguments' types; and that of a law of one token. -/
import Derived.Test.YtdjpnncehlmehaaDoorFrame
import Derived.Test.YtdjpnncehlmehaaDoorX
import Derived.ReadAgain
import Derived.LaidSub
import Derived.MakeChecks
import Derived.Lib.SmallJoins
namespace Go.Proofs.YtdjpnncehlmehaaDoor.frame
open Go.Joins Go.ChangeShapes Go.WideShapes Go.ChangeAt Go.RowKit Go.Deep
open Go.ChangeMaps (open_string shut_string)

section
variable {H : Type} {enc : TypeId × Value → H} {P : Program} {w w' : World} {base : Nat} {spare : Nat → Bool} {held : Bool}
theorem trodAll_below : ∀ {ts : List TypeId} {vs : List Value} {ds : List (DataW H)} {ps : List MemPlace}, DataW.TrodAll enc P w base spare held ts vs ds ps → (∀ p ∈ ps, w.sameAt w' p) → DataW.TrodAll enc P w' base spare held ts vs ds ps
  | [], vs, ds, ps, h, _ => by
    obtain ⟨rfl, rfl, rfl⟩ := trodAll_nil h
    exact trodAll_mk0
  | t :: ts, vs, ds, ps, h, hs => by
    obtain ⟨v, vs', d, ds', p, p', rfl, rfl, rfl, h1, h2⟩ := trodAll_cons h
    obtain ⟨n, hn⟩ := h1
    exact trodAll_cons_mk ⟨n, DataW.trod_carry n _ _ _ hn (fun q hq => hs q (List.mem_append_left _ hq))⟩ (trodAll_below h2 (fun q hq => hs q (List.mem_append_right _ hq)))
end
section
variable {H : Type} {enc : TypeId × Value → H} {P : Program} {T : TypeId → Prop}
/-- the law answers true, and what lay below is as it was: the row's last step, whatever the arguments are -/
theorem post_true {f : Func} {s : ChangeSpec} {W W' : World} {args : Array Value} {ds : List (DataW H)} {before : List MemPlace} (K : Kids P T) (hz : ∀ t e, T t → P.underlying t = some (.slice e) → 0 < P.cellsOf e)
    (hv : s.vars = []) (hT : ∀ t ∈ f.params.toList, T t) (hr : f.resultTypes = #[4]) (hbool : P.underlying 4 = some .bool) (hs : s.fn H (ds ++ []) = { results := [.lit (.bool true)], args := ds })
    (hW : DataW.Whole enc P f.params.toList s.vars false W args.toList ds [] before) (hb : Below W.heap.size W W') :
    s.post enc P f false true false false W args (.bool true) W' := by
  have hW' := hW
  obtain ⟨p, q, hA, hV, rfl, hfz, hnd⟩ := hW
  rw [hv] at hV
  obtain ⟨-, rfl⟩ := trodVars_none hV
  simp only [List.append_nil] at hW'
  have hlt : ∀ x ∈ p, x.block < W.heap.size := fun x hx => hW'.lt x hx
  have hA' : DataW.TrodAll enc P W' 0 (fun _ => true) true f.params.toList args.toList ds p := trodAll_below hA (fun x hx => hb.same (hlt x hx))
  refine post_of_below (pa := p) (pv := []) hW' (fun _ _ _ => ?_) (fun sp hsp => ?_) (fun _ _ => ?_) (by simp) hb ?_
  · rw [hs, hr]
    exact trodAll_cons_mk (shut_bool hbool _) trodAll_mk0
  · rw [hs]
    exact DataW.TrodAll.respare K hz hT hA' hsp
  · rw [hv, hs]
    rfl
  · exact ok_one (t := 4) hr rfl (okWide_bool_mk hbool _)
end
section
variable {H : Type} {enc : TypeId × Value → H} {P : Program} {w : World} {base : Nat} {spare : Nat → Bool} {held : Bool}
theorem open_agg5 {r : Reach} {b0 : Nat} {t : TypeId} {f0 f1 f2 f3 f4 : Field} {v : Value} {d : DataW H} {p : List MemPlace} (hs : P.underlying t = some (.struct #[f0, f1, f2, f3, f4])) (hone : oneCellFields P #[f0, f1, f2, f3, f4] = true) (hC : P.cellsOf t = 5)
    (hv : Value.okWide P w r b0 t v) (h : DataW.Trod enc P w base spare held t v d p) :
    ∃ (v0 v1 v2 v3 v4 : Value) (y0 y1 y2 y3 y4 : DataW H × List MemPlace) (n : Nat), v = .agg #[v0, v1, v2, v3, v4] ∧ d = .agg [y0.1, y1.1, y2.1, y3.1, y4.1] ∧ p = y0.2 ++ (y1.2 ++ (y2.2 ++ (y3.2 ++ y4.2))) ∧
      DataW.trod enc P w base spare held n f0.type [v0] = some y0 ∧ DataW.trod enc P w base spare held n f1.type [v1] = some y1 ∧ DataW.trod enc P w base spare held n f2.type [v2] = some y2 ∧ DataW.trod enc P w base spare held n f3.type [v3] = some y3 ∧ DataW.trod enc P w base spare held n f4.type [v4] = some y4 := by
  obtain ⟨cs, rfl, hsz⟩ := okWide_struct hs hv
  obtain ⟨l⟩ := cs
  match l, hsz.trans hC with
  | [c0, c1, c2, c3, c4], _ =>
    obtain ⟨fuel, hf⟩ := h
    obtain ⟨xs, n, _, hx, _, hlen, hg⟩ := DataW.trod_struct hs hf
    obtain ⟨o0, k0⟩ := hone_of hone 0 f0 rfl
    obtain ⟨o1, k1⟩ := hone_of hone 1 f1 rfl
    obtain ⟨o2, k2⟩ := hone_of hone 2 f2 rfl
    obtain ⟨o3, k3⟩ := hone_of hone 3 f3 rfl
    obtain ⟨o4, k4⟩ := hone_of hone 4 f4 rfl
    match xs, hlen with
    | [y0, y1, y2, y3, y4], _ =>
      simp only [Prod.mk.injEq] at hx
      exact ⟨c0, c1, c2, c3, c4, y0, y1, y2, y3, y4, n, rfl, by simpa using hx.1, by simpa using hx.2, by simpa [Value.cells, o0, k0] using hg 0 f0 rfl, by simpa [Value.cells, o1, k1] using hg 1 f1 rfl, by simpa [Value.cells, o2, k2] using hg 2 f2 rfl, by simpa [Value.cells, o3, k3] using hg 3 f3 rfl, by simpa [Value.cells, o4, k4] using hg 4 f4 rfl⟩
end
theorem kids : Kids Tryd.prog (· < Tryd.prog.types.size) := kids_rows (by kernel_rfl) (by kernel_rfl)
theorem full : ∀ t e, t < Tryd.prog.types.size → Tryd.prog.underlying t = some (.slice e) → 0 < Tryd.prog.cellsOf e := slices_full_of Tryd.prog (by kernel_rfl)
theorem params_in : ∀ t ∈ Tryd.f9.params.toList, t < Tryd.prog.types.size := by
  have h : (Tryd.f9.params.toList.all fun t => decide (t < Tryd.prog.types.size)) = true := by kernel_rfl
  intro t ht
  simpa using List.all_eq_true.1 h t ht
theorem pow_of_laid {W : World} (h : laidMetH Tryd.prog Rows.lexerWordRow.laid W) : Pow W := by
  have h2 := h.filter (fun x => x.1 == "internal/strconv.uint64pow10")
  rw [Go.MakeChecks.laidMetH_plain _ _ _ (by kernel_rfl)] at h2
  exact Lib.tabIs_of_head (rest := []) (t := 90) (e := 81) (n := 20) (g := 1) (by kernel_rfl) (by kernel_rfl) (by kernel_rfl) (by kernel_rfl) (by kernel_rfl) (by kernel_rfl) h2
/-- a token that came in -/
theorem tok_in {H : Type} {enc : TypeId × Value → H} {W : World} {base : Nat} {v : Value} {d : DataW H} {p : List MemPlace} (hv : Value.okWide Tryd.prog W .any base 33 v) (h : DataW.Trod enc Tryd.prog W 0 (fun _ => true) true 33 v d p) :
    ∃ t : Tok, v = .agg (tokA t) ∧ t.text.length ≤ maxLen ∧ t.str.length ≤ maxLen ∧ -9223372036854775808 ≤ t.int ∧ t.int ≤ 9223372036854775807 := by
  obtain ⟨v0, v1, v2, v3, v4, y0, y1, y2, y3, y4, n, rfl, _, _, h0, h1, h2, h3, h4⟩ := open_agg5 Tryd.underlying33 (by kernel_rfl) (by kernel_rfl) hv h
  obtain ⟨a, ha, -, -⟩ := DataW.trod_int Tryd.underlying3 h0
  obtain ⟨b, hb, -, hbl⟩ := DataW.trod_string Tryd.underlying9 h1
  obtain ⟨c, hc, -, hcw⟩ := DataW.trod_int Tryd.underlying2 h2
  obtain ⟨e, he, -, hel⟩ := DataW.trod_string Tryd.underlying9 h3
  obtain ⟨f, hf, -, -⟩ := DataW.trod_int Tryd.underlying3 h4
  simp only [List.cons.injEq, and_true] at ha hb hc he hf
  subst ha hb hc he hf
  simp only [Lit.wf, IntKind.min, IntKind.max, IntKind.signed, IntKind.bits, decide_eq_true_eq, Bool.and_eq_true] at hcw
  exact ⟨⟨a, b.data.toList, c, e.data.toList, f⟩, rfl, hbl, hel, by show (-9223372036854775808 : Int) ≤ c; simp at hcw; omega, by show c ≤ (9223372036854775807 : Int); simp at hcw; omega⟩
theorem word_contract (H : Type) (enc : TypeId × Value → H) (W : World) (base : Nat) (args : Array Value) (ds gs : List (DataW H)) (before : List MemPlace)
    (hval : ∀ (j : Nat) t v, Tryd.f9.params[j]? = some t → args[j]? = some v → Value.okWide Tryd.prog W .any base t v)
    (hW : DataW.Whole enc Tryd.prog Tryd.f9.params.toList Rows.lexerWordSpec.vars false W args.toList ds gs before) (hL : laidMetH Tryd.prog Rows.lexerWordRow.laid W) (hsh : W.ShapedOpen Tryd.prog) :
    Calls Tryd.prog 9 args W fun e W' => ∃ v, e = .returned v ∧ Rows.lexerWordSpec.post enc Tryd.prog Tryd.f9 false true false false W args v W' := by
  have hW' := hW
  obtain ⟨p, q, hA0, hV, rfl, hfz, hnd⟩ := hW
  have hA : DataW.TrodAll enc Tryd.prog W 0 (fun _ => true) true Tryd.f9.params.toList args.toList ds p := hA0
  rw [Tryd.params9] at hA hval
  obtain ⟨v0, vs0, d0, ds0, p0, q0, hargs, rfl, rfl, h0, r0⟩ := trodAll_cons hA
  obtain ⟨rfl, rfl, rfl⟩ := trodAll_nil r0
  obtain rfl : args = #[v0] := by cases args; simp_all
  obtain ⟨rfl, -⟩ := trodVars_none hV
  obtain ⟨t, rfl, ht, hs, h1, h2⟩ := tok_in (hval 0 33 v0 rfl rfl) h0
  refine (lawWord t W h1 h2 ht hs (pow_of_laid hL) hsh).mono fun e W' ⟨he, hb⟩ => ?_
  subst he
  exact ⟨_, rfl, post_true kids full rfl params_in (by kernel_rfl) Tryd.underlying4 rfl hW' hb⟩
end Go.Proofs.YtdjpnncehlmehaaDoor.frame
