/- The frame of the law: from the walk to the row. -/
import Derived.Test.YtlklmpcfhnbhgaaDoorCpS
import Derived.Test.YtlklmpcfhnbhgaaDoorRows
import Derived.ProofKit
import Derived.OpenShut
import Derived.Below
import Derived.ChangeSame
import Derived.Deep.DeepHandedRow
import Derived.Lib.LaidTab
import Derived.ReadAgain
import Derived.LaidSub
import Derived.MakeChecks
import Derived.Lib.SmallJoins
import Derived.Laws.IdiomArrays
import Derived.WideKeyArr2
namespace Go.Proofs.YtlklmpcfhnbhgaaDoor.frame
open Go.Joins Go.ChangeShapes Go.WideShapes Go.ChangeAt Go.RowKit Go.Deep

theorem own : ownKnob Tryd.prog.godebug = none := by kernel_rfl
/-- a block with other cells -/
def lay (cs : Array Value) : Obj → Obj
  | .cells _ t frozen => .cells cs t frozen
  | o => o
def intsOf : DataW Unit → Array Value
  | .agg l => (l.map fun | .lit (.int k z) => Value.int k z | _ => Value.bool false).toArray
  | _ => #[]
/-- the settled world, the table holding what its initialiser lays -/
noncomputable def laidWorld (os : Os) : World :=
  { World.holding Tryd.prog os ⟨#[], #[], []⟩ with heap := (World.holding Tryd.prog os ⟨#[], #[], []⟩).heap.modify 0 (lay (intsOf Rows.laid_math_bits_deBruijn32tab)) }

section
variable {H : Type} {enc : TypeId × Value → H} {P : Program}
/-- the row's last step where new memory may be frozen: what lay below is as it was -/
theorem post_of_below {f : Func} {s : ChangeSpec} {apart fresh handsOn again : Bool} {W W' : World} {args : Array Value} {v : Value} {ds gs : List (DataW H)} {before pa pv : List MemPlace}
    (hW : DataW.Whole enc P f.params.toList s.vars apart W args.toList ds gs before)
    (hres : ∀ (b : Nat) (sp : Nat → Bool) (hd : Bool), DataW.TrodAll enc P W' b sp hd f.resultTypes.toList (v.resultList f.resultTypes.size) (s.fn H (ds ++ gs)).results [])
    (hargs : ∀ sp : Nat → Bool, (∀ p ∈ before, sp p.block = true) → DataW.TrodAll enc P W' 0 sp true f.params.toList args.toList (s.fn H (ds ++ gs)).args pa)
    (hvars : ∀ sp : Nat → Bool, (∀ p ∈ before, sp p.block = true) → DataW.TrodVars enc P W' sp s.vars (s.fn H (ds ++ gs)).vars pv)
    (hps : before = pa ++ pv) (hb : Below W.heap.size W W')
    (hok : ∀ (j : Nat) (t : TypeId) (r : Value), f.resultTypes[j]? = some t → (v.resultList f.resultTypes.size)[j]? = some r → Value.okWide P W' .any 0 t r) :
    s.post enc P f apart fresh handsOn again W args v W' := by
  have low : ∀ p ∈ before, p.block < W.heap.size := fun p hp => hW.lt p hp
  have old : ∀ p ∈ before, (fun b => decide (b < W.heap.size)) p.block = true := fun p hp => by simpa using low p hp
  refine ⟨ds, gs, before, [], pa, pv, hW, hres _ _ _, hargs _ old, hvars _ old, World.keptBut_mono (fun p hp => ⟨hp, .inr (by rw [hps, List.mem_append] at hp; exact hp)⟩) (hb.frame (· ∈ before)), fun _ => ?_⟩
  obtain ⟨_, _, _, _, _, hz, hn⟩ := hW
  refine ⟨hok, _, _, ([] ++ pa) ++ pv, ⟨[] ++ pa, pv, trodAll_append (hargs _ (fun _ _ => rfl)) (hres _ _ _), hvars _ (fun _ _ => rfl), rfl, ?_, ?_⟩, ?_⟩
  · intro b off hp
    have hin : MemPlace.cell b off ∈ before := by rw [hps]; simpa using hp
    rw [hb.frozen (low _ hin)]
    exact hz b off hin
  · intro ha
    have := hn ha
    rw [hps] at this
    simpa using this
  · intro p hp _
    rw [hps]
    simpa using hp
end
section
variable {H : Type} {enc : TypeId × Value → H} {P : Program} {w w' : World} {base : Nat} {spare : Nat → Bool} {held : Bool}
theorem trodAll_below : ∀ {ts : List TypeId} {vs : List Value} {ds : List (DataW H)} {ps : List MemPlace}, DataW.TrodAll enc P w base spare held ts vs ds ps → (∀ p ∈ ps, w.sameAt w' p) → DataW.TrodAll enc P w' base spare held ts vs ds ps
  | [], vs, ds, ps, h, _ => by
    obtain ⟨rfl, rfl, rfl⟩ := trodAll_nil h
    exact trodAll_mk0
  | t :: ts, vs, ds, ps, h, hs => by
    obtain ⟨v, vs', d, ds', p, p', rfl, rfl, rfl, h1, h2⟩ := trodAll_cons h
    obtain ⟨n, hn⟩ := h1
    exact trodAll_cons_mk ⟨n, DataW.trod_carry n _ _ _ hn (fun q hq => hs q (List.mem_append_left _ hq))⟩ (trodAll_below h2 (fun q hq => hs q (List.mem_append_right _ hq)))
end
section
variable {H : Type} {enc : TypeId × Value → H} {P : Program} {T : TypeId → Prop}
/-- the law answers true, and what lay below is as it was: the row's last step, whatever the arguments are -/
theorem post_true {f : Func} {s : ChangeSpec} {W W' : World} {args : Array Value} {ds : List (DataW H)} {before : List MemPlace} (K : Kids P T) (hz : ∀ t e, T t → P.underlying t = some (.slice e) → 0 < P.cellsOf e)
    (hv : s.vars = []) (hT : ∀ t ∈ f.params.toList, T t) (hr : f.resultTypes = #[4]) (hbool : P.underlying 4 = some .bool) (hs : s.fn H (ds ++ []) = { results := [.lit (.bool true)], args := ds })
    (hW : DataW.Whole enc P f.params.toList s.vars false W args.toList ds [] before) (hb : Below W.heap.size W W') :
    s.post enc P f false true false false W args (.bool true) W' := by
  have hW' := hW
  obtain ⟨p, q, hA, hV, rfl, hfz, hnd⟩ := hW
  rw [hv] at hV
  obtain ⟨-, rfl⟩ := trodVars_none hV
  simp only [List.append_nil] at hW'
  have hlt : ∀ x ∈ p, x.block < W.heap.size := fun x hx => hW'.lt x hx
  have hA' : DataW.TrodAll enc P W' 0 (fun _ => true) true f.params.toList args.toList ds p := trodAll_below hA (fun x hx => hb.same (hlt x hx))
  refine post_of_below (pa := p) (pv := []) hW' (fun _ _ _ => ?_) (fun sp hsp => ?_) (fun _ _ => ?_) (by simp) hb ?_
  · rw [hs, hr]
    exact trodAll_cons_mk (shut_bool hbool _) trodAll_mk0
  · rw [hs]
    exact DataW.TrodAll.respare K hz hT hA' hsp
  · rw [hv, hs]
    rfl
  · exact ok_one (t := 4) hr rfl (okWide_bool_mk hbool _)
end
theorem kids : Kids Tryd.prog (· < Tryd.prog.types.size) := kids_rows (by kernel_rfl) (by kernel_rfl)
theorem full : ∀ t e, t < Tryd.prog.types.size → Tryd.prog.underlying t = some (.slice e) → 0 < Tryd.prog.cellsOf e := slices_full_of Tryd.prog (by kernel_rfl)
theorem params_in : ∀ t ∈ Tryd.f3.params.toList, t < Tryd.prog.types.size := by
  have h : (Tryd.f3.params.toList.all fun t => decide (t < Tryd.prog.types.size)) = true := by kernel_rfl
  intro t ht
  simpa using List.all_eq_true.1 h t ht
def tabZ : List Int := [0, 1, 28, 2, 29, 14, 24, 3, 30, 22, 20, 15, 25, 17, 4, 8, 31, 27, 13, 23, 21, 19, 16, 7, 26, 12, 18, 6, 11, 5, 10, 9]
theorem tabZ_ok : ∀ j : Fin 32, tabZ.getD j.val 0 = ((tabZ.getD j.val 0).toNat : Int) ∧ (tabZ.getD j.val 0).toNat < 256 := by decide
theorem tb_of_laid {W : World} (h : laidMetH Tryd.prog Rows.topComposedRow.laid W) : Tb W := by
  rw [Go.MakeChecks.laidMetH_plain _ _ _ (by kernel_rfl)] at h
  have h2 : Lib.TabIs Tryd.prog W "math/bits.deBruijn32tab" .u8 tabZ := Lib.tabIs_of_head (rest := []) (t := 75) (e := 5) (n := 32) (g := 0) (by kernel_rfl) (by kernel_rfl) (by kernel_rfl) (by kernel_rfl) (by kernel_rfl) (by kernel_rfl) h
  have hc : ∀ j, j < 32 → W.cell? ⟨0, j, none⟩ = some (.int .u8 (tabZ.getD j 0)) := fun j hj => h2.cell (by kernel_rfl) j hj
  refine ⟨?_, fun j hj => ⟨_, (tabZ_ok ⟨j, hj⟩).2, by rw [hc j hj]; exact congrArg (fun z => some (Value.int .u8 z)) (tabZ_ok ⟨j, hj⟩).1⟩⟩
  obtain ⟨o, ho⟩ : ∃ o, W.heap[0]? = some o := by
    have h0 := hc 0 (by decide)
    cases hq : W.heap[0]? with
    | none => simp [World.cell?, hq] at h0
    | some o => exact ⟨o, rfl⟩
  exact (Array.getElem?_eq_some_iff.1 ho).1
theorem law_nat (k p q r a b c : Nat) (hk : k < 256) (hp : p < 256) (hq : q < 256) (hr : r < 256) (ha : a < 256) (hb : b < 256) (hc : c < 256) (W : World) (ht : Tb W) :
    Calls Tryd.prog 3 #[.int .u8 (k : Int), .agg #[.int .u8 (p : Int), .int .u8 (q : Int), .int .u8 (r : Int)], .agg #[.int .u8 (a : Int), .int .u8 (b : Int), .int .u8 (c : Int)]] W
      (fun e w' => e = .returned (.bool true) ∧ Below W.heap.size W w') :=
  law_any k (fun m => match m with | 0 => p | 1 => q | _ => r) (fun m => match m with | 0 => a | 1 => b | _ => c) hk (fun m => by match m with | 0 => exact hp | 1 => exact hq | _ + 2 => exact hr) (fun m => by match m with | 0 => exact ha | 1 => exact hb | _ + 2 => exact hc) W ht
theorem u8_nat {z : Int} (h : (Lit.int .u8 z).wf = true) : ∃ n : Nat, z = n ∧ n < 256 := by
  simp only [Lit.wf, IntKind.min, IntKind.max, IntKind.signed, IntKind.bits, Bool.and_eq_true] at h
  exact ⟨z.toNat, by simp at h; omega, by simp at h; omega⟩
theorem arr : Go.WideMaps.ArrKey Tryd.prog 22 5 3 := ⟨by kernel_rfl, by kernel_rfl, by kernel_rfl, by kernel_rfl⟩
theorem arr_in {H : Type} {enc : TypeId × Value → H} {W : World} {base : Nat} {v : Value} {d : DataW H} {p : List MemPlace} (hv : Value.okWide Tryd.prog W .any base 22 v) (h : DataW.Trod enc Tryd.prog W 0 (fun _ => true) true 22 v d p) :
    ∃ a b c : Nat, v = .agg #[.int .u8 (a : Int), .int .u8 (b : Int), .int .u8 (c : Int)] ∧ a < 256 ∧ b < 256 ∧ c < 256 := by
  obtain ⟨cs, rfl, hsz⟩ := Go.WideMaps.okWide_arr arr hv
  obtain ⟨l⟩ := cs
  match l, hsz with
  | [c0, c1, c2], _ =>
    obtain ⟨fuel, hf⟩ := h
    obtain ⟨y0, y1, y2, n, _, h0, h1, h2⟩ := trod_array3 (t := 22) (e := 5) (by kernel_rfl) (by kernel_rfl) hf
    obtain ⟨a, ha, -, wa⟩ := DataW.trod_int Tryd.underlying5 h0
    obtain ⟨b, hb, -, wb⟩ := DataW.trod_int Tryd.underlying5 h1
    obtain ⟨c, hc, -, wc⟩ := DataW.trod_int Tryd.underlying5 h2
    simp only [List.cons.injEq, and_true] at ha hb hc
    subst ha hb hc
    obtain ⟨a', rfl, ha⟩ := u8_nat wa
    obtain ⟨b', rfl, hb⟩ := u8_nat wb
    obtain ⟨c', rfl, hc⟩ := u8_nat wc
    exact ⟨a', b', c', rfl, ha, hb, hc⟩
theorem int_in {H : Type} {enc : TypeId × Value → H} {W : World} {v : Value} {d : DataW H} {p : List MemPlace} (hv : ∃ z, v = .int .u8 z) (h : DataW.Trod enc Tryd.prog W 0 (fun _ => true) true 5 v d p) :
    ∃ a : Nat, v = .int .u8 (a : Int) ∧ a < 256 := by
  obtain ⟨z, rfl⟩ := hv
  obtain ⟨fuel, hf⟩ := h
  obtain ⟨a, ha, -, wa⟩ := DataW.trod_int Tryd.underlying5 hf
  simp [Value.cells] at ha
  subst ha
  obtain ⟨a', rfl, ha⟩ := u8_nat wa
  exact ⟨a', rfl, ha⟩
theorem contract (H : Type) (enc : TypeId × Value → H) (W : World) (base : Nat) (args : Array Value) (ds gs : List (DataW H)) (before : List MemPlace)
    (hval : ∀ (j : Nat) t v, Tryd.f3.params[j]? = some t → args[j]? = some v → Value.okWide Tryd.prog W .any base t v)
    (hW : DataW.Whole enc Tryd.prog Tryd.f3.params.toList Rows.topComposedSpec.vars false W args.toList ds gs before) (hL : laidMetH Tryd.prog Rows.topComposedRow.laid W) :
    Calls Tryd.prog 3 args W fun e W' => ∃ v, e = .returned v ∧ Rows.topComposedSpec.post enc Tryd.prog Tryd.f3 false true false false W args v W' := by
  have hW' := hW
  obtain ⟨p, q, hA0, hV, rfl, hfz, hnd⟩ := hW
  have hA : DataW.TrodAll enc Tryd.prog W 0 (fun _ => true) true Tryd.f3.params.toList args.toList ds p := hA0
  rw [Tryd.params3] at hA hval
  obtain ⟨v0, vs0, d0, ds0, p0, q0, hargs, rfl, rfl, h0, r0⟩ := trodAll_cons hA
  obtain ⟨v1, vs1, d1, ds1, p1, q1, rfl, rfl, rfl, h1, r1⟩ := trodAll_cons r0
  obtain ⟨v2, vs2, d2, ds2, p2, q2, rfl, rfl, rfl, h2, r2⟩ := trodAll_cons r1
  obtain ⟨rfl, rfl, rfl⟩ := trodAll_nil r2
  obtain rfl : args = #[v0, v1, v2] := by cases args; simp_all
  obtain ⟨rfl, -⟩ := trodVars_none hV
  obtain ⟨k, rfl, hk⟩ := int_in (okWide_int Tryd.underlying5 (hval 0 5 v0 rfl rfl)) h0
  obtain ⟨p, q, r, rfl, hp, hq, hr⟩ := arr_in (hval 1 22 v1 rfl rfl) h1
  obtain ⟨a, b, c, rfl, ha, hb, hc⟩ := arr_in (hval 2 22 v2 rfl rfl) h2
  refine (law_nat k p q r a b c hk hp hq hr ha hb hc W (tb_of_laid hL)).mono fun e W' ⟨he, hb⟩ => ?_
  subst he
  exact ⟨_, rfl, post_true kids full rfl params_in (by kernel_rfl) Tryd.underlying4 rfl hW' hb⟩
end Go.Proofs.YtlklmpcfhnbhgaaDoor.frame
