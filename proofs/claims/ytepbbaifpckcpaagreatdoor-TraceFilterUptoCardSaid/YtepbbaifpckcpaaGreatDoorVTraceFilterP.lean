/- TraceFilter returns true for every input, where what it reads is of bulk at most 1048576: the row's statement, and its card. -/
import Derived.Test.YtepbbaifpckcpaaGreatDoorCards
import Derived.Test.YtepbbaifpckcpaaGreatDoorTie
import Derived.Test.YtepbbaifpckcpaaGreatDoorVLawFl
import Derived.Test.YtepbbaifpckcpaaGreatDoorVFr
namespace Go.Proofs.YtepbbaifpckcpaaGreatDoor.traceFilterLaw
open Go.Joins Go.ChangeShapes Go.WideShapes Go.ChangeAt Go.RowKit Go.Deep
open Go.ChangeMaps (open_string shut_string)
open Go.Proofs.YtepbbaifpckcpaaGreatDoor.frame
theorem params_in : ∀ t ∈ Tryz.f5.params.toList, t < Tryz.prog.types.size := by
 have h : (Tryz.f5.params.toList.all fun t => decide (t < Tryz.prog.types.size)) = true := by kernel_rfl
 intro t ht
 simpa using List.all_eq_true.1 h t ht
theorem pts_bulk (l : List Pt) : ∀ x ∈ l, x.msg.sz ≤ sum Pt.sz l ∧ x.text.length ≤ sum Pt.sz l ∧ x.result.length ≤ sum Pt.sz l := fun x hx => by
 induction l with
 | nil => cases hx
 | cons y r ih =>
  rw [sum_cons]
  rcases List.mem_cons.1 hx with rfl | h
  · unfold Pt.sz
    omega
  · have := ih h
    omega
theorem pts_many (l : List Pt) : 7 * l.length ≤ sum Pt.sz l := by
 induction l with
 | nil => simp [sum]
 | cons y r ih =>
  rw [sum_cons, List.length_cons]
  have : 7 ≤ y.sz := by unfold Pt.sz; omega
  omega
set_option maxRecDepth 100000 in
theorem contract (H : Type) (enc : TypeId × Value → H) (W : World) (base : Nat) (args : Array Value) (ds gs : List (DataW H)) (before : List MemPlace)
    (hval : ∀ (j : Nat) t v, Tryz.f5.params[j]? = some t → args[j]? = some v → Value.okWide Tryz.prog W .any base t v)
    (hW : DataW.Whole enc Tryz.prog Tryz.f5.params.toList Rows.traceFilterSpec.vars false W args.toList ds gs before) (hL : laidMetH Tryz.prog Rows.traceFilterUptoRow.laid W) (hsh : W.ShapedOpen Tryz.prog) (hk : Rows.uptoSmall H (ds ++ gs) = true) :
    Calls Tryz.prog 5 args W fun e W' => ∃ v, e = .returned v ∧ Rows.traceFilterSpec.post enc Tryz.prog Tryz.f5 false true false false W args v W' := by
 have hW' := hW
 obtain ⟨p, q, hA0, hV, rfl, hfz, hnd⟩ := hW
 have hA : DataW.TrodAll enc Tryz.prog W 0 (fun _ => true) true Tryz.f5.params.toList args.toList ds p := hA0
 rw [Tryz.params5] at hA hval
 obtain ⟨v0, vs0, d0, ds0, p0, q0, hargs0, rfl, rfl, h0, r0⟩ := trodAll_cons hA
 obtain ⟨v1, vs1, d1, ds1, p1, q1, hargs1, rfl, rfl, h1, r1⟩ := trodAll_cons r0
 obtain ⟨rfl, rfl, rfl⟩ := trodAll_nil r1
 obtain rfl : args = #[v0, v1] := by cases args; simp_all
 obtain ⟨rfl, -⟩ := trodVars_none hV
 have hbk := of_decide_eq_true hk
 simp only [List.append_nil, Rows.uptoBulkAll] at hbk
 obtain ⟨A0, c0, l0, rfl, hq0, hb0⟩ := pts_in (hval 0 22 v0 rfl rfl) h0
 have hl0 := pts_bulk l0
 obtain ⟨A1, c1, l1, rfl, hq1, hb1⟩ := ints_in (hval 1 46 v1 rfl rfl) h1
 refine (lawFilter A0 A1 c0 c1 l0 l1 W (env_of_laid hL hsh) hq0 (fun x hx => Nat.le_trans (hl0 x hx).1 (by omega)) (by have := pts_many l0; omega) hq1).mono fun e W' ⟨he, hb⟩ => ?_
 subst he
 exact ⟨_, rfl, post_true kids full rfl params_in (by kernel_rfl) Tryz.underlying4 rfl hW' hb⟩
theorem reads (os : Os) {H : Type} (enc : TypeId × Value → H) : ∃ places, DataW.whole enc Tryz.prog ((laidWorld os).forCall (fun _ _ => 0) ⟨#[], #[.slice none 0 0, .slice none 0 0], []⟩).memory Tryz.f5.params.toList Rows.traceFilterSpec.vars false (#[.slice none 0 0, .slice none 0 0] : Array Value).toList 8 = some ([.nil, .nil], [], places) :=
 ⟨[], by kernel_rfl⟩
set_option maxRecDepth 100000 in
theorem lifted (os : Os) (started : os.Started) (H : Type) (enc : TypeId × Value → H) (F : Stop.Interp) :
    ReturnsInHanded {} Tryz.checked os 5 .any ((Rows.OpenSpec.upto Rows.traceFilterSpec).preRow enc Tryz.prog Tryz.f5 Rows.traceFilterUptoRow.domain false Rows.traceFilterUptoRow.laid) (((Rows.OpenSpec.upto Rows.traceFilterSpec).at F).post enc Tryz.prog Tryz.f5 false true false false) := by
 obtain ⟨places, hx⟩ := reads os enc
 refine returnsInHanded_of_row (C := Tryz.checked) (s := Rows.OpenSpec.upto Rows.traceFilterSpec) frame.own started (by kernel_rfl) Tryz.func5
  (witness_row_at (enc := enc) (C := Tryz.checked) false (laidWorld os) #[.slice none 0 0, .slice none 0 0] rfl (by kernel_rfl) (by kernel_rfl) (by kernel_rfl)
   (OpenSpec.preRow_of_cond 8 hx (by kernel_rfl) (fun k hk => by cases hk; kernel_rfl) (by kernel_rfl) (laid_met os _))) ?_
 intro W base args ds gs before hval hW _ hcond _ hL hsh _
 exact contract H enc W base args ds gs before hval hW hL hsh (hcond _ rfl)
theorem fnamed : Tryz.pinned.checked.prog.funcNamed Rows.traceFilterUptoRow.func = some 5 := by kernel_rfl
theorem closed : joinedFacts Tryz.pinned.checked.prog 5 Tryz.f5 (Rows.OpenSpec.upto Rows.traceFilterSpec).bare Rows.traceFilterUptoRow = true := by kernel_rfl
theorem inst : Tryz.f5.isInstance Tryz.pinned.checked.prog Rows.traceFilterUptoRow.origin Rows.traceFilterUptoRow.targs := of_decide_eq_true (by kernel_rfl)
theorem wrap : Tryz.f5.isWrapper Tryz.pinned.checked.prog Rows.traceFilterUptoRow.wrapper Rows.traceFilterUptoRow.mainSum := by
 unfold Func.isWrapper
 first | (rw [if_pos (by decide +kernel)]; kernel_rfl) | (rw [if_neg (by decide +kernel)]; exact ⟨rfl, rfl⟩)
theorem said : Rows.TraceFilterUptoSaid :=
 OpenClaim.holds_of_cond 5 Tryz.f5 rfl rfl rfl rfl rfl rfl rfl ⟨rfl, rfl, rfl, rfl, rfl⟩ rfl rfl rfl rfl rfl fnamed Tryz.func5 closed inst wrap
  (fun os started H enc _ F => by rw [OpenClaim.pre_eq_preRow]; exact lifted os started H enc F)
theorem plain (f : FuncId) (fn : Func) (hf : Tryz.pinned.checked.prog.funcNamed Rows.traceFilterUptoRow.func = some f) (hfn : Tryz.pinned.checked.prog.funcs[f]? = some fn) :
    true = Tryz.pinned.checked.prog.looks [] ∧ ∀ (j : Nat) t, fn.params[j]? = some t → Tryz.pinned.checked.prog.wantsStandIn t = false := by
 obtain rfl : f = 5 := Option.some.inj ((show Tryz.prog.funcNamed Rows.traceFilterUptoRow.func = some 5 by kernel_rfl).symm.trans hf) |>.symm
 obtain rfl : fn = Tryz.f5 := (Option.some.inj (Tryz.func5.symm.trans hfn)).symm
 refine ⟨by kernel_rfl, fun j t ht => ?_⟩
 rw [Tryz.params5] at ht
 have hm := Array.mem_of_getElem? ht
 simp only [List.mem_toArray, List.mem_cons, List.not_mem_nil, or_false] at hm
 rcases hm with rfl | rfl
 · exact (show Tryz.prog.wantsStandIn 22 = false by kernel_rfl)
 · exact (show Tryz.prog.wantsStandIn 46 = false by kernel_rfl)
theorem card : Rows.TraceFilterUptoCardSaid :=
 Claim7.holds_tied_plain_at .later [] _ _ _ _ said (fun _ h => by cases h) (by kernel_rfl) (fun _ h => by cases h) traceFilterUpto_row_tie rfl ⟨rfl, rfl⟩ (by kernel_rfl) rfl plain (by kernel_rfl)
end Go.Proofs.YtepbbaifpckcpaaGreatDoor.traceFilterLaw
