/- AdversaryDecode returns true for every input (no condition beside the row's own): the row's statement, and its card. -/
import Derived.Test.YtikpcebhcnjkhaaGreatDoorCards
import Derived.Test.YtikpcebhcnjkhaaGreatDoorTie
import Derived.Test.YtikpcebhcnjkhaaGreatDoorDAdvLd
import Derived.Test.YtikpcebhcnjkhaaGreatDoorDFrameQb
namespace Go.Proofs.YtikpcebhcnjkhaaGreatDoor.adversaryDecodeLaw
open Go.Joins Go.ChangeShapes Go.WideShapes Go.ChangeAt Go.RowKit Go.Deep
open Go.ChangeMaps (open_string shut_string)
open Go.Proofs.YtikpcebhcnjkhaaGreatDoor.frame
theorem params_in : ∀ t ∈ Tryz.f5.params.toList, t < Tryz.prog.types.size := by
 have h : (Tryz.f5.params.toList.all fun t => decide (t < Tryz.prog.types.size)) = true := by kernel_rfl
 intro t ht
 simpa using List.all_eq_true.1 h t ht
set_option maxRecDepth 100000 in
theorem contract (H : Type) (enc : TypeId × Value → H) (W : World) (base : Nat) (args : Array Value) (ds gs : List (DataW H)) (before : List MemPlace)
    (hval : ∀ (j : Nat) t v, Tryz.f5.params[j]? = some t → args[j]? = some v → Value.okWide Tryz.prog W .any base t v)
    (hW : DataW.Whole enc Tryz.prog Tryz.f5.params.toList Rows.adversaryDecodeSpec.vars false W args.toList ds gs before) (hL : laidMetH Tryz.prog Rows.adversaryDecodeRow.laid W) :
    Calls Tryz.prog 5 args W fun e W' => ∃ v, e = .returned v ∧ Rows.adversaryDecodeSpec.post enc Tryz.prog Tryz.f5 false true false false W args v W' := by
 have hW' := hW
 obtain ⟨p, q, hA0, hV, rfl, hfz, hnd⟩ := hW
 have hA : DataW.TrodAll enc Tryz.prog W 0 (fun _ => true) true Tryz.f5.params.toList args.toList ds p := hA0
 rw [Tryz.params5] at hA hval
 obtain ⟨v0, vs0, d0, ds0, p0, q0, hargs0, rfl, rfl, h0, r0⟩ := trodAll_cons hA
 obtain ⟨v1, vs1, d1, ds1, p1, q1, hargs1, rfl, rfl, h1, r1⟩ := trodAll_cons r0
 obtain ⟨v2, vs2, d2, ds2, p2, q2, hargs2, rfl, rfl, h2, r2⟩ := trodAll_cons r1
 obtain ⟨rfl, rfl, rfl⟩ := trodAll_nil r2
 obtain rfl : args = #[v0, v1, v2] := by cases args; simp_all
 obtain ⟨rfl, -⟩ := trodVars_none hV
 obtain ⟨N, Wt, C, x, rfl, hN, hWt, hC, hx, hok⟩ := draft_in (hval 0 24 v0 rfl rfl) h0
 obtain ⟨s, rfl, hs⟩ := set_in (hval 1 26 v1 rfl rfl) h1
 obtain ⟨A2, c2, l2, rfl, hq2, hb2, hn2⟩ := bytes_in (hval 2 53 v2 rfl rfl) h2
 have htab := tab_of hL rfl
 refine (lawDecode51 N Wt C x s c2 A2 l2 W (envP_of hL rfl) (tbE_of htab) hN hWt hC hs hx hok hq2 hb2 hn2).mono fun e W' ⟨he, hb⟩ => ?_
 subst he
 exact ⟨_, rfl, post_true kids full rfl params_in (by kernel_rfl) Tryz.underlying4 rfl hW' hb⟩
theorem reads (os : Os) {H : Type} (enc : TypeId × Value → H) : ∃ places, DataW.whole enc Tryz.prog ((laidWorld os).forCall (fun _ _ => 0) ⟨#[], #[.agg #[.int .u8 0, .int .u8 0, .int .u8 0, .slice none 0 0], .int .u16 0, .slice none 0 0], []⟩).memory Tryz.f5.params.toList Rows.adversaryDecodeSpec.vars false (#[.agg #[.int .u8 0, .int .u8 0, .int .u8 0, .slice none 0 0], .int .u16 0, .slice none 0 0] : Array Value).toList 8 = some ([.agg [.lit (.int .u8 0), .lit (.int .u8 0), .lit (.int .u8 0), .nil], .lit (.int .u16 0), .nil], [], places) :=
 ⟨[], by kernel_rfl⟩
set_option maxRecDepth 100000 in
theorem lifted (os : Os) (started : os.Started) (H : Type) (enc : TypeId × Value → H) (F : Stop.Interp) :
    ReturnsInHanded {} Tryz.checked os 5 .any ((OpenSpec.ofChange Rows.adversaryDecodeSpec).preRow enc Tryz.prog Tryz.f5 Rows.adversaryDecodeRow.domain false Rows.adversaryDecodeRow.laid) (((OpenSpec.ofChange Rows.adversaryDecodeSpec).at F).post enc Tryz.prog Tryz.f5 false true false false) := by
 obtain ⟨places, hx⟩ := reads os enc
 refine returnsInHanded_of_row (C := Tryz.checked) (s := OpenSpec.ofChange Rows.adversaryDecodeSpec) frame.own started (by kernel_rfl) Tryz.func5
  (witness_row_at (enc := enc) (C := Tryz.checked) false (laidWorld os) #[.agg #[.int .u8 0, .int .u8 0, .int .u8 0, .slice none 0 0], .int .u16 0, .slice none 0 0] rfl (by kernel_rfl) (by kernel_rfl) (by kernel_rfl)
   (OpenSpec.preRow_of_cond 8 hx (by kernel_rfl) (fun k hk => by cases hk) (by kernel_rfl) (laid_met os _))) ?_
 intro W base args ds gs before hval hW _ _ _ hL _ _
 exact contract H enc W base args ds gs before hval hW hL
theorem fnamed : Tryz.pinned.checked.prog.funcNamed Rows.adversaryDecodeRow.func = some 5 := by kernel_rfl
theorem closed : joinedFacts Tryz.pinned.checked.prog 5 Tryz.f5 (OpenSpec.ofChange Rows.adversaryDecodeSpec).bare Rows.adversaryDecodeRow = true := by kernel_rfl
theorem inst : Tryz.f5.isInstance Tryz.pinned.checked.prog Rows.adversaryDecodeRow.origin Rows.adversaryDecodeRow.targs := of_decide_eq_true (by kernel_rfl)
theorem wrap : Tryz.f5.isWrapper Tryz.pinned.checked.prog Rows.adversaryDecodeRow.wrapper Rows.adversaryDecodeRow.mainSum := by
 unfold Func.isWrapper
 first | (rw [if_pos (by decide +kernel)]; kernel_rfl) | (rw [if_neg (by decide +kernel)]; exact ⟨rfl, rfl⟩)
theorem said : Rows.AdversaryDecodeSaid :=
 OpenClaim.holds_of_cond 5 Tryz.f5 rfl rfl rfl rfl rfl rfl rfl ⟨rfl, rfl, rfl, rfl, rfl⟩ rfl rfl rfl rfl rfl fnamed Tryz.func5 closed inst wrap
  (fun os started H enc _ F => by rw [OpenClaim.pre_eq_preRow]; exact lifted os started H enc F)
theorem plain (f : FuncId) (fn : Func) (hf : Tryz.pinned.checked.prog.funcNamed Rows.adversaryDecodeRow.func = some f) (hfn : Tryz.pinned.checked.prog.funcs[f]? = some fn) :
    true = Tryz.pinned.checked.prog.looks [] ∧ ∀ (j : Nat) t, fn.params[j]? = some t → Tryz.pinned.checked.prog.wantsStandIn t = false := by
 obtain rfl : f = 5 := Option.some.inj ((show Tryz.prog.funcNamed Rows.adversaryDecodeRow.func = some 5 by kernel_rfl).symm.trans hf) |>.symm
 obtain rfl : fn = Tryz.f5 := (Option.some.inj (Tryz.func5.symm.trans hfn)).symm
 refine ⟨by kernel_rfl, fun j t ht => ?_⟩
 rw [Tryz.params5] at ht
 have hm := Array.mem_of_getElem? ht
 simp only [List.mem_toArray, List.mem_cons, List.not_mem_nil, or_false] at hm
 rcases hm with rfl | rfl | rfl
 · exact (show Tryz.prog.wantsStandIn 24 = false by kernel_rfl)
 · exact (show Tryz.prog.wantsStandIn 26 = false by kernel_rfl)
 · exact (show Tryz.prog.wantsStandIn 53 = false by kernel_rfl)
theorem card : Rows.AdversaryDecodeCardSaid :=
 Claim7.holds_tied_plain_at .later [] _ _ _ _ said (fun _ h => by cases h) (by kernel_rfl) (fun _ h => by cases h) adversaryDecode_row_tie rfl ⟨rfl, rfl⟩ (by kernel_rfl) rfl plain (by kernel_rfl)
end Go.Proofs.YtikpcebhcnjkhaaGreatDoor.adversaryDecodeLaw
