/- What was seen that came in; the errors' variables; a start that fits. -/
import Derived.Test.YtikpcebhcnjkhaaGreatDoorSPl
import Derived.Test.YtikpcebhcnjkhaaGreatDoorSFrameR
import Derived.Test.YtikpcebhcnjkhaaGreatDoorSAdvSc
namespace Go.Proofs.YtikpcebhcnjkhaaGreatDoor.frame
open Go.Joins Go.ChangeShapes Go.WideShapes Go.ChangeAt Go.RowKit Go.Deep
theorem star : "*" ++ "errors.errorString" = "*errors.errorString" := by decide
set_option maxRecDepth 100000 in
theorem rowErr (u : TypeId) (h : Tryz.prog.typeName? 3 u = some "*errors.errorString") : u = 238 :=
 typeName_ptr_named (nm := "errors.errorString") (by rw [star]; kernel_rfl) (by kernel_rfl) (by decide) u (by rw [star]; exact h)
set_option maxRecDepth 100000 in
theorem env_of {W : World} {L : List (String × DataW Unit)} (h : laidMetH Tryz.prog L W) (hp : L.filter (fun x => x.1 == "internal/strconv.uint64pow10") = [("internal/strconv.uint64pow10", Rows.laid_internal_strconv_uint64pow10)]) (hsyn : L.filter (fun x => x.1 == "strconv.ErrSyntax") = [("strconv.ErrSyntax", Rows.laid_strconv_ErrSyntax)]) (hrng : L.filter (fun x => x.1 == "strconv.ErrRange") = [("strconv.ErrRange", Rows.laid_strconv_ErrRange)]) : Q40.Env W where
 pow := (envP_of h hp).pow
 syn := by
  have h2 := h.filter (fun x => x.1 == "strconv.ErrSyntax")
  rw [hsyn] at h2
  rw [Go.MakeChecks.laidMetH_plain _ _ _ (by kernel_rfl)] at h2
  have hg : Tryz.prog.globalNamed "strconv.ErrSyntax" = some 1 := by kernel_rfl
  obtain ⟨a0, s0, hv0, _⟩ := laid_sentinel (r := []) h2 hg (by kernel_rfl) Tryz.underlying129 rowErr Tryz.underlying238 Tryz.underlying240 rfl rfl Tryz.underlying9 (by kernel_rfl) (by kernel_rfl)
  exact ⟨_, _, by have h0 := World.var?_cell hg hv0 0; simpa using h0⟩
 rng := by
  have h2 := h.filter (fun x => x.1 == "strconv.ErrRange")
  rw [hrng] at h2
  rw [Go.MakeChecks.laidMetH_plain _ _ _ (by kernel_rfl)] at h2
  have hg : Tryz.prog.globalNamed "strconv.ErrRange" = some 2 := by kernel_rfl
  obtain ⟨a0, s0, hv0, _⟩ := laid_sentinel (r := []) h2 hg (by kernel_rfl) Tryz.underlying129 rowErr Tryz.underlying238 Tryz.underlying240 rfl rfl Tryz.underlying9 (by kernel_rfl) (by kernel_rfl)
  exact ⟨_, _, by have h0 := World.var?_cell hg hv0 0; simpa using h0⟩
theorem cells_api_Seen : Tryz.prog.cellsOf 59 = 2 := by kernel_rfl
section
variable {H : Type} {enc : TypeId × Value → H} {W : World}
set_option maxHeartbeats 2000000 in
theorem Seen_in (n : Nat) (cs : List Value) (x : DataW H × List MemPlace) (h : DataW.trod enc Tryz.prog W 0 (fun _ => true) true n 59 cs = some x) : ∃ (a : Sl St) (b : Sl (List UInt8)), cs = [a.v, b.v] ∧ (a.rd 12 stC W ∧ (∀ y ∈ a.l, y.ok W) ∧ b.rd 1 strV W) ∧ sum St.sz a.l + sum szS b.l ≤ Rows.uptoBulk x.1 := by
 obtain ⟨ys, n', _, rfl, hl, hyl, hf⟩ := DataW.trod_struct Tryz.underlying59 h
 rw [cells_api_Seen] at hl
 obtain ⟨c0, r0, rfl, hl0⟩ := split1 hl
 obtain ⟨c1, r1, rfl, hl1⟩ := split1 hl0
 obtain rfl := List.length_eq_zero_iff.1 hl1
 obtain ⟨y0, q0, rfl, hyl0⟩ := split1 (n := 1) hyl
 obtain ⟨y1, q1, rfl, hyl1⟩ := split1 (n := 0) hyl0
 obtain rfl := List.length_eq_zero_iff.1 hyl1
 have t0 : DataW.trod enc Tryz.prog W 0 (fun _ => true) true n' 43 [c0] = some y0 := by
  have h9 := hf 0 _ rfl
  simp only [qk4,qk6,cells___api_Status,qd2,qd3,qd4,qd6] at h9
  exact h9
 obtain ⟨a0, e0, rd0, ok0, x0⟩ := slice_in (C := stC) (sz := St.sz) (ok := fun a : St => a.ok W) (k := 12) (fun _ => rfl) (by decide) Tryz.underlying43 cells_api_Status (fun n cs x h => St_in n cs x h) t0
 obtain rfl : c0 = _ := e0
 have t1 : DataW.trod enc Tryz.prog W 0 (fun _ => true) true n' 30 [c1] = some y1 := by
  have h9 := hf 1 _ rfl
  simp only [qk4,qk5,qk6,cells___string,qd1,qd2,qd3,qd4,qd5,qd6] at h9
  exact h9
 obtain ⟨a1, e1, rd1, ok1, x1⟩ := slice_in (C := strV) (sz := szS) (ok := fun _ => True) (k := 1) (fun _ => rfl) (by decide) Tryz.underlying30 cells_string (fun n cs x h => str_in n cs x h) t1
 obtain rfl : c1 = _ := e1
 refine ⟨a0, a1, rfl, ⟨rd0, ok0, rd1⟩, ?_⟩
 simp only [List.map_cons, List.map_nil, Rows.uptoBulk, Rows.uptoBulkAll]
 omega
set_option maxRecDepth 100000 in
theorem seen_in {base : Nat} {v : Value} {d : DataW H} {p : List MemPlace} (hv : Value.okWide Tryz.prog W .any base 59 v) (h : DataW.Trod enc Tryz.prog W 0 (fun _ => true) true 59 v d p) :
    ∃ (As Av : Option Addr) (cs cv : Nat) (ss : List St) (vs : List (List UInt8)), v = .agg #[.slice As ss.length cs, .slice Av vs.length cv] ∧ Rd W 12 As ss.length (ss.flatMap stC) ∧ (∀ y ∈ ss, y.ok W) ∧ Rd W 1 Av vs.length (strC vs) ∧ sum St.sz ss + sum szS vs ≤ Rows.uptoBulk d := by
 obtain ⟨cs, rfl⟩ := cells_of_agg Tryz.underlying59 hv
 obtain ⟨n, hn⟩ := h
 obtain ⟨a, b, hm, ⟨h1, h2, h3⟩, h4⟩ := Seen_in n _ _ hn
 have hm' : cs.toList = [a.v, b.v] := hm
 have : cs = #[a.v, b.v] := by rw [← hm']
 rw [Sl.rd, strV_flat] at h3
 exact ⟨a.a, b.a, a.c, b.c, a.l, b.l, by rw [this]; rfl, h1, h2, h3, h4⟩
end
def synS : ByteArray := { data := #[105, 110, 118, 97, 108, 105, 100, 32, 115, 121, 110, 116, 97, 120] }
def rngS : ByteArray := { data := #[118, 97, 108, 117, 101, 32, 111, 117, 116, 32, 111, 102, 32, 114, 97, 110, 103, 101] }
noncomputable def low : Nat := (World.holding Tryz.prog default ⟨#[], #[], []⟩).heap.size
noncomputable def base0 (os : Os) : World := World.holding Tryz.prog os ⟨#[.cells #[.string synS] 240, .cells #[.string rngS] 240], #[], []⟩
noncomputable def laidWorldS (os : Os) : World :=
 { base0 os with heap := (((((base0 os).heap.modify 1 (lay #[.iface 238 (.pointer (some ⟨low, 0, none⟩))])).modify 2 (lay #[.iface 238 (.pointer (some ⟨low + 1, 0, none⟩))])).modify 3 (lay (intsOf Rows.laid_internal_strconv_uint64pow10))).modify 0 (lay (intsOf Rows.laid_math_bits_deBruijn32tab))).modify 4 (lay (intsOf Rows.laid_math_bits_deBruijn64tab)) }
set_option maxRecDepth 100000 in
theorem laid_metS (os : Os) (args : Array Value) : laidMet Tryz.prog Rows.adversarySeeUptoRow.laid ((laidWorldS os).forCall (fun _ _ => 0) ⟨#[], args, []⟩).memory :=
 laidMet_of_run' 8 (by kernel_rfl) (by kernel_rfl)
end Go.Proofs.YtikpcebhcnjkhaaGreatDoor.frame
