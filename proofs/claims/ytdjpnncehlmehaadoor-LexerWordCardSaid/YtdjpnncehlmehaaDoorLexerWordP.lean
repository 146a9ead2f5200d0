/- LexerWord returns true for every token: the row's statement, and its card. No condition beside the row's own. -/
import Derived.Test.YtdjpnncehlmehaaDoorCards
import Derived.Test.YtdjpnncehlmehaaDoorTie
import Derived.Test.YtdjpnncehlmehaaDoorFrameW
namespace Go.Proofs.YtdjpnncehlmehaaDoor.lexerWordLaw
open Go.ChangeShapes Go.WideShapes Go.ChangeAt Go.RowKit

def intsOf : DataW Unit → Array Value
  | .agg l => (l.map fun | .lit (.int k z) => Value.int k z | _ => Value.bool false).toArray
  | _ => #[]
/-- the settled world, the five tables holding what their initialisers lay -/
noncomputable def laidWorld (os : Os) : World :=
  { frame.laidWorld os with heap := (((frame.laidWorld os).heap.modify 1 (frame.lay (intsOf Rows.laid_internal_strconv_uint64pow10))).modify 4 (frame.lay (intsOf Rows.laid_math_bits_deBruijn32tab))).modify 5 (frame.lay (intsOf Rows.laid_math_bits_deBruijn64tab)) }
def tok0 : Value := .agg #[.int .i64 0, .string ⟨#[]⟩, .int .i64 0, .string ⟨#[]⟩, .int .i64 0]
theorem laid_met (os : Os) : laidMet Tryd.prog Rows.lexerWordRow.laid ((laidWorld os).forCall (fun _ _ => 0) ⟨#[], #[tok0], []⟩).memory :=
  laidMet_of_run' 8 (by kernel_rfl) (by kernel_rfl)
theorem reads (os : Os) {H : Type} (enc : TypeId × Value → H) : ∃ places, DataW.whole enc Tryd.prog ((laidWorld os).forCall (fun _ _ => 0) ⟨#[], #[tok0], []⟩).memory Tryd.f9.params.toList Rows.lexerWordSpec.vars false #[tok0].toList 8 = some ([.agg [.lit (.int .i64 0), .lit (.string []), .lit (.int .i64 0), .lit (.string []), .lit (.int .i64 0)]], [], places) :=
  ⟨[], by kernel_rfl⟩
set_option maxRecDepth 100000 in
theorem lifted (os : Os) (started : os.Started) (H : Type) (enc : TypeId × Value → H) (F : Stop.Interp) :
    ReturnsInHanded {} Tryd.checked os 9 .any ((OpenSpec.ofChange Rows.lexerWordSpec).preRow enc Tryd.prog Tryd.f9 Rows.lexerWordRow.domain false Rows.lexerWordRow.laid) (((OpenSpec.ofChange Rows.lexerWordSpec).at F).post enc Tryd.prog Tryd.f9 false true false false) := by
  obtain ⟨places, hx⟩ := reads os enc
  refine returnsInHanded_of_row (C := Tryd.checked) (s := OpenSpec.ofChange Rows.lexerWordSpec) frame.own started (by kernel_rfl) Tryd.func9
    (witness_row_at (enc := enc) (C := Tryd.checked) false (laidWorld os) #[tok0] rfl (by kernel_rfl) (by kernel_rfl) (by kernel_rfl)
      (OpenSpec.preRow_of_cond 8 hx (by kernel_rfl) (fun k hk => by cases hk) (by kernel_rfl) (laid_met os))) ?_
  intro W base args ds gs before hval hW _ _ _ hL hsh _
  exact frame.word_contract H enc W base args ds gs before hval hW hL hsh
theorem said : Rows.LexerWordSaid :=
  OpenClaim.holds_of_cond 9 Tryd.f9 rfl rfl rfl rfl rfl rfl rfl ⟨rfl, rfl, rfl, rfl, rfl⟩ rfl rfl rfl rfl rfl (by kernel_rfl) Tryd.func9 (by kernel_rfl)
    (of_decide_eq_true (by kernel_rfl)) (by unfold Func.isWrapper; first | (rw [if_pos (by decide +kernel)]; kernel_rfl) | (rw [if_neg (by decide +kernel)]; exact ⟨rfl, rfl⟩))
    (fun os started H enc _ F => by rw [OpenClaim.pre_eq_preRow]; exact lifted os started H enc F)
theorem plain (f : FuncId) (fn : Func) (hf : Tryd.pinned.checked.prog.funcNamed Rows.lexerWordRow.func = some f) (hfn : Tryd.pinned.checked.prog.funcs[f]? = some fn) :
    false = Tryd.pinned.checked.prog.looks [] ∧ ∀ (j : Nat) t, fn.params[j]? = some t → Tryd.pinned.checked.prog.wantsStandIn t = false := by
  obtain rfl : f = 9 := Option.some.inj ((show Tryd.prog.funcNamed Rows.lexerWordRow.func = some 9 by kernel_rfl).symm.trans hf) |>.symm
  obtain rfl : fn = Tryd.f9 := (Option.some.inj (Tryd.func9.symm.trans hfn)).symm
  refine ⟨by kernel_rfl, fun j t ht => ?_⟩
  rw [Tryd.params9] at ht
  obtain rfl : t = 33 := by simpa using Array.mem_of_getElem? ht
  exact (show Tryd.prog.wantsStandIn 33 = false by kernel_rfl)
theorem card : Rows.LexerWordCardSaid :=
  Claim7.holds_tied_plain_at .later [] _ _ _ _ said (fun _ h => by cases h) (by kernel_rfl) (fun _ h => by cases h) lexerWord_row_tie rfl ⟨rfl, rfl⟩ (by kernel_rfl) rfl plain (by kernel_rfl)
end Go.Proofs.YtdjpnncehlmehaaDoor.lexerWordLaw
