/- The contract of trace.line at an invoke (all that awake wants). -/
import Derived.Deep.AppendLies
import Derived.Lib.AppendIntMem
import Derived.Test.YtepbbaifpckcpaaGreatDoorVPl
import Derived.Test.YtepbbaifpckcpaaGreatDoorVTrK
import Derived.Test.YtepbbaifpckcpaaGreatDoorVQb
namespace Go.Proofs.YtepbbaifpckcpaaGreatDoor
open Go.RowKit
def headParts (x : Pt) : List (List UInt8) := [Lib.itoa x.time, wordK x.kind, Lib.itoa x.who]
def kindParts (x : Pt) : List (List UInt8) :=
 if x.kind = 1 then [Lib.itoa x.number, Q06.quote x.text] else if x.kind = 2 then [Lib.itoa x.number, Lib.itoa x.slot, Q06.quote x.result] else if x.kind = 3 ∨ x.kind = 4 then [Lib.itoa x.slot, Q06.quote x.text] else if x.kind = 5 then [Lib.itoa x.number, Q06.quote x.text, Q06.quote x.result] else if x.kind = 6 then [Q06.quote (enc0 x.msg)] else []
def lineOf (x : Pt) : List UInt8 := Lib.join (headParts x ++ kindParts x) [32] ++ [10]
theorem quote_len (l : List UInt8) : (Q06.quote l).length ≤ 4 * l.length + 2 := by
 have := Q06.qmid_len l
 simp only [Q06.quote, List.length_cons, List.length_append, List.length_nil]
 omega
theorem quote_any (l : List UInt8) (w : World) (h : l.length ≤ 1000000) : Calls Tryz.prog 77 #[.string ⟨l.toArray⟩] w (RetStr (Q06.quote l) w) := by
 have h1 := Q06.lexQuote_any ⟨l.toArray⟩ w (by simpa [ByteArray.size] using h)
 exact h1
theorem itoa_ok (n : Int) (hn : I64 n) (w : World) (he : Env w) : Calls Tryz.prog 76 #[.int .i64 n] w (RetStr (Lib.itoa n) w) :=
 (Tryz.strconv_Itoa n hn.1 hn.2 w he.pow).mono fun _ _ ⟨he, k, os, hw⟩ => ⟨he, by rw [hw]; exact Lib.below_grow _ w (Nat.le_refl _) k os⟩
theorem joinOwn_any (w0 w : World) (g n c : Nat) (l : List (List UInt8)) (hn : n = l.length) (h : w.ownsRow w0.heap.size 9 1 (.slice (some ⟨g, 0, none⟩) n c) n (strC l)) (hl : l ≠ []) (hb : (Lib.join l [32]).length ≤ 140737488355328) (hs : l.length ≤ 1000) :
    Calls Tryz.prog 79 #[.slice (some ⟨g, 0, none⟩) n c, .string ⟨#[32]⟩] w (RetStr (Lib.join l [32]) w) := by
 subst hn
 have hcap := own_cap h
 have hrd := Rd.own h
 obtain ⟨bk, o, e, hbk, hcc⟩ := hrd.cells (by rw [strC_len]; exact List.length_pos_iff.2 hl)
 simp only [Option.some.injEq, Addr.mk.injEq] at e
 obtain ⟨rfl, rfl, _⟩ := e
 have h9 := Tryz.strings_Join g 0 c (l.map fun x => ⟨x.toArray⟩) ⟨#[32]⟩ w (fun j x hx => hcc j _ (by
  simp only [List.getElem?_map, Option.map_eq_some_iff] at hx
  obtain ⟨y, hy, rfl⟩ := hx
  simp [strC, hy])) hbk (by rw [List.length_map]; omega) (by rw [List.length_map]; exact hcap) (by rw [map_mk]; exact hb)
 rw [map_mk, List.length_map] at h9
 exact h9
theorem ret_line {x : Pt} {w w' : World} (hb : Below w.heap.size w w') : RetStr (lineOf x) w (.returned (.string ⟨(Lib.join (headParts x ++ kindParts x) [32] ++ [10]).toArray⟩)) w' := ⟨rfl, hb⟩
set_option maxRecDepth 100000 in
set_option maxHeartbeats 4000000 in
theorem trLine1_any (x : Pt) (hone : x.kind = 1) (w : World) (he : Env w) (hok : x.ok w) (hs : x.msg.sz ≤ 16777216) (ht : x.text.length ≤ 300000) (_hr : x.result.length ≤ 300000) (_hm : (enc0 x.msg).length ≤ 1000000) (hl : (Lib.join (headParts x ++ kindParts x) [32]).length ≤ 100000000) :
    Calls Tryz.prog 48 #[.agg (ptC x).toArray] w (RetStr (lineOf x) w) := by
 have HOne := hD hone
 clear hone
 have HEnv := hD he
 have HOk := hD hok
 have HS := hD hs
 have HLen := hD hl
 have HX := hD (Vr.new w (ptC x) 40)
 have HB := hD (below_new w (.cells (ptC x).toArray 40))
 obtain ⟨⟨i_t, i_k, i_w, i_s, i_n⟩, -⟩ := hok
 have HI_time := hD i_t
 have HI_who := hD i_w
 have HI_slot := hD i_s
 have HI_number := hD i_n
 obtain ⟨bw, hlook⟩ := words_look he x.kind i_k
 have HLk : Hid (∀ W, Below w.heap.size w W → W.cell? ⟨0, 0, none⟩ = some (.map (some bw)) ∧ (Instr.lookup 90 (.map (some bw)) (.int .i64 x.kind) false).run Tryz.prog W = .ok (.string ⟨(wordK x.kind).toArray⟩) W) := hD (fun W h => ⟨(hlook W h).1, (hlook W h).2.2⟩)
 obtain ⟨i0, hi, hz0, hz1, hz2⟩ := info_parts infoTxt
 have HI := hD hi
 have HZ0 := hD hz0
 have HZ1 := hD hz1
 have HZ2 := hD hz2
 clear hi hz0 hz1 hz2 he hs hlook i_t i_k i_w i_s i_n hl
 go_enter Tryz.func48, Tryz.ntmps48
 go_upto_region 1 with fail
 change Code.wp _ _ _ _ (w.alloc (.cells (ptC x).toArray 40))
 generalize w.alloc (.cells (ptC x).toArray 40) = w1 at HX HB ⊢
 refine wp_region_noPanic ?_
 have HX := hD (HX.out.below (Below.refl _ _).drew)
 have HB := hD (HB.out.drew)
 generalize hv : w1.drew = u0 at HX HB
 have hS0 : World.cell? u0 ⟨w.heap.size, 0, none⟩ = some (.int .i64 x.time) ∧ World.cell? u0 ⟨w.heap.size, 1, none⟩ = some (.int .i64 x.kind) ∧ World.cell? u0 ⟨w.heap.size, 2, none⟩ = some (.int .i64 x.who) ∧ World.cell? u0 ⟨0, 0, none⟩ = some (.map (some bw)) ∧ (Instr.lookup 90 (.map (some bw)) (.int .i64 x.kind) false).run Tryz.prog u0 = .ok (.string ⟨(wordK x.kind).toArray⟩) u0 := ⟨HX.out.cells 0 _ rfl, HX.out.cells 1 _ rfl, HX.out.cells 2 _ rfl, (HLk.out _ HB.out).1, (HLk.out _ HB.out).2⟩
 refine wp_region_held_drew (S := fun W => World.cell? W ⟨w.heap.size, 0, none⟩ = some (.int .i64 x.time) ∧ World.cell? W ⟨w.heap.size, 1, none⟩ = some (.int .i64 x.kind) ∧ World.cell? W ⟨w.heap.size, 2, none⟩ = some (.int .i64 x.who) ∧ World.cell? W ⟨0, 0, none⟩ = some (.map (some bw)) ∧ (Instr.lookup 90 (.map (some bw)) (.int .i64 x.kind) false).run Tryz.prog W = .ok (.string ⟨(wordK x.kind).toArray⟩) W) (by kernel_rfl) (by rw [hv]; exact hS0) (fun hHeld => ?_)
 rw [hv] at hHeld ⊢
 clear hv
 refine tkq 0 rfl (v := ?_) (.inl ⟨by rfl, ?_⟩) (by assumption) ?_
 rotate_left
 · intro W h; (try dsimp only at h); go_simp; try with_reducible rfl
 try simp only [Act.put,qk1,qk2,qk3,qk4,qk6]
 refine tkq 1 rfl (v := ?_) (.inl ⟨by rfl, ?_⟩) (by assumption) ?_
 rotate_left
 · intro W h; (try dsimp only at h); go_simp; try with_reducible rfl
 try simp only [Act.put,qk1,qk2,qk3,qk4,qk5,qk6]
 refine tkq 3 rfl (v := ?_) (.inl ⟨by rfl, ?_⟩) (by assumption) ?_
 rotate_left
 · intro W h; (try dsimp only at h); go_simp; try with_reducible rfl
 try simp only [Act.put,qk1,qk2,qk3,qk4,qk5,qk6]
 refine tkq 4 rfl (v := ?_) (.inl ⟨by rfl, ?_⟩) (by assumption) ?_
 rotate_left
 · intro W h; (try dsimp only at h); go_simp; try with_reducible rfl
 try simp only [Act.put,qk1,qk2,qk3,qk4,qk5,qk6]
 refine tkq 5 rfl (v := ?_) (.inl ⟨by rfl, ?_⟩) (by assumption) ?_
 rotate_left
 · intro W h; (try dsimp only at h); go_simp; try with_reducible rfl
 try simp only [Act.put,qk1,qk2,qk3,qk4,qk5,qk6]
 refine tkq 6 rfl (v := ?_) (.inl ⟨by rfl, ?_⟩) (by assumption) ?_
 rotate_left
 · intro W h; (try dsimp only at h); go_simp; try with_reducible rfl
 try simp only [Act.put,qk1,qk2,qk3,qk4,qk5,qk6]
 refine tkq 7 rfl (v := ?_) (.inl ⟨by rfl, ?_⟩) (by assumption) ?_
 rotate_left
 · intro W h; (try dsimp only at h); go_simp; try with_reducible rfl
 try simp only [Act.put,qk1,qk2,qk3,qk4,qk5,qk6]
 refine tkq 8 rfl (v := ?_) (.inl ⟨by rfl, ?_⟩) (by assumption) ?_
 rotate_left
 · intro W h; (try dsimp only at h); go_simp; try with_reducible rfl
 try simp only [Act.put,qk1,qk2,qk3,qk4,qk5,qk6]
 refine tkr 2 rfl (fun K hK => ?_)
 go_simp
 go_at_call 76
 refine (itoa_ok x.time HI_time.out _ (HEnv.out.below HB.out)).mono ?_
 rintro e u1 ⟨rfl, hs⟩
 have HX := hD (HX.out.below hs)
 have HB := hD (bon HB.out hs)
 clear hs
 go_wp2_with fail
 have hS1 : World.cell? u1 ⟨w.heap.size, 0, none⟩ = some (.int .i64 x.time) ∧ World.cell? u1 ⟨w.heap.size, 1, none⟩ = some (.int .i64 x.kind) ∧ World.cell? u1 ⟨w.heap.size, 2, none⟩ = some (.int .i64 x.who) ∧ World.cell? u1 ⟨0, 0, none⟩ = some (.map (some bw)) ∧ (Instr.lookup 90 (.map (some bw)) (.int .i64 x.kind) false).run Tryz.prog u1 = .ok (.string ⟨(wordK x.kind).toArray⟩) u1 := ⟨HX.out.cells 0 _ rfl, HX.out.cells 1 _ rfl, HX.out.cells 2 _ rfl, (HLk.out _ HB.out).1, (HLk.out _ HB.out).2⟩
 refine hK.out _ _ hS1 (fun hHeld => ?_)
 clear hK K
 try simp only [Act.put,qk1,qk2,qk3,qk4,qk5,qk6]
 refine tkr 9 rfl (fun K hK => ?_)
 go_simp
 go_at_call 76
 refine (itoa_ok x.who HI_who.out _ (HEnv.out.below HB.out)).mono ?_
 rintro e u2 ⟨rfl, hs⟩
 have HX := hD (HX.out.below hs)
 have HB := hD (bon HB.out hs)
 clear hs
 go_wp2_with fail
 have hS2 : World.cell? u2 ⟨w.heap.size, 0, none⟩ = some (.int .i64 x.time) ∧ World.cell? u2 ⟨w.heap.size, 1, none⟩ = some (.int .i64 x.kind) ∧ World.cell? u2 ⟨w.heap.size, 2, none⟩ = some (.int .i64 x.who) ∧ World.cell? u2 ⟨0, 0, none⟩ = some (.map (some bw)) ∧ (Instr.lookup 90 (.map (some bw)) (.int .i64 x.kind) false).run Tryz.prog u2 = .ok (.string ⟨(wordK x.kind).toArray⟩) u2 := ⟨HX.out.cells 0 _ rfl, HX.out.cells 1 _ rfl, HX.out.cells 2 _ rfl, (HLk.out _ HB.out).1, (HLk.out _ HB.out).2⟩
 refine hK.out _ _ hS2 (fun hHeld => ?_)
 clear hK K
 try simp only [Act.put,qk1,qk2,qk3,qk4,qk5,qk6]
 refine tkr 10 rfl (fun K hK => ?_)
 go_simp
 have hs := below_new u2 (.cells #[.string ⟨(Lib.itoa x.time).toArray⟩, .string ⟨(wordK x.kind).toArray⟩, .string ⟨(Lib.itoa x.who).toArray⟩] 9)
 have hb8 : w.heap.size < u2.heap.size := HX.out.lt
 have HO := hD (World.ownsRow_lit (base := w.heap.size) (e := 9) (size := 1) u2 #[.string ⟨(Lib.itoa x.time).toArray⟩, .string ⟨(wordK x.kind).toArray⟩, .string ⟨(Lib.itoa x.who).toArray⟩] 3 (Nat.le_of_lt hb8) (by decide) rfl)
 have HX := hD (HX.out.below hs)
 have HB := hD (bon HB.out hs)
 clear hs
 generalize u2.alloc (.cells #[.string ⟨(Lib.itoa x.time).toArray⟩, .string ⟨(wordK x.kind).toArray⟩, .string ⟨(Lib.itoa x.who).toArray⟩] 9) = u3 at HX HB HO ⊢
 generalize u2.heap.size = b8 at HO hb8 ⊢
 have hS3 : World.cell? u3 ⟨w.heap.size, 0, none⟩ = some (.int .i64 x.time) ∧ World.cell? u3 ⟨w.heap.size, 1, none⟩ = some (.int .i64 x.kind) ∧ World.cell? u3 ⟨w.heap.size, 2, none⟩ = some (.int .i64 x.who) ∧ World.cell? u3 ⟨0, 0, none⟩ = some (.map (some bw)) ∧ (Instr.lookup 90 (.map (some bw)) (.int .i64 x.kind) false).run Tryz.prog u3 = .ok (.string ⟨(wordK x.kind).toArray⟩) u3 := ⟨HX.out.cells 0 _ rfl, HX.out.cells 1 _ rfl, HX.out.cells 2 _ rfl, (HLk.out _ HB.out).1, (HLk.out _ HB.out).2⟩
 refine hK.out _ _ hS3 (fun hHeld => ?_)
 clear hK K
 try simp only [Act.put,qk1,qk2,qk3,qk4,qk5,qk6]
 refine tkr 11 rfl (fun K hK => ?_)
 go_simp
 refine hK.out _ _ hS3 (fun hHeld => ?_)
 clear hK K
 try simp only [Act.put,qk1,qk2,qk3,qk4,qk5,qk6]
 refine wpAnyH_done (by kernel_rfl) ?_ _
 refine NoPanic.normal ?_
 clear hS0 hS1 hS2 hS3
 generalize u3 = w3 at HX HB HO ⊢
 have c1 := HX.out.cells 1 _ rfl
 have cl := HX.out.lt
 by_cases hk : x.kind = 1
 case pos =>
  have HKP : Hid (kindParts x = [Lib.itoa x.number, Q06.quote x.text]) := hD (by simp [kindParts, hk])
  rw [hk] at c1
  clear hk
  go_wp2_with fail
  refine wp_region_noPanic ?_
  have HX := hD (HX.out.below (Below.refl _ _).drew)
  have HB := hD (HB.out.drew)
  have HO := hD (ownsRow_below HO.out (Below.refl _ _).drew)
  generalize hv : w3.drew = u0 at HX HB HO
  have hS0 : World.cell? u0 ⟨w.heap.size, 3, none⟩ = some (.int .i64 x.slot) ∧ World.cell? u0 ⟨w.heap.size, 4, none⟩ = some (.int .i64 x.number) ∧ World.cell? u0 ⟨w.heap.size, 5, none⟩ = some (.string ⟨x.text.toArray⟩) ∧ World.cell? u0 ⟨w.heap.size, 6, none⟩ = some (.string ⟨x.result.toArray⟩) := ⟨HX.out.cells 3 _ rfl, HX.out.cells 4 _ rfl, HX.out.cells 5 _ rfl, HX.out.cells 6 _ rfl⟩
  refine wp_region_held_drew (S := fun W => World.cell? W ⟨w.heap.size, 3, none⟩ = some (.int .i64 x.slot) ∧ World.cell? W ⟨w.heap.size, 4, none⟩ = some (.int .i64 x.number) ∧ World.cell? W ⟨w.heap.size, 5, none⟩ = some (.string ⟨x.text.toArray⟩) ∧ World.cell? W ⟨w.heap.size, 6, none⟩ = some (.string ⟨x.result.toArray⟩)) (by kernel_rfl) (by rw [hv]; exact hS0) (fun hHeld => ?_)
  rw [hv] at hHeld ⊢
  clear hv
  refine tkq 0 rfl (v := ?_) (.inl ⟨by rfl, ?_⟩) (by assumption) ?_
  rotate_left
  · intro W h; (try dsimp only at h); go_simp; try with_reducible rfl
  try simp only [Act.put,qk1,qk2,qk3,qk4,qk6]
  refine tkq 1 rfl (v := ?_) (.inl ⟨by rfl, ?_⟩) (by assumption) ?_
  rotate_left
  · intro W h; (try dsimp only at h); go_simp; try with_reducible rfl
  try simp only [Act.put,qk1,qk2,qk3,qk4,qk5,qk6]
  refine tkq 2 rfl (v := ?_) (.inl ⟨by rfl, ?_⟩) (by assumption) ?_
  rotate_left
  · intro W h; (try dsimp only at h); go_simp; try with_reducible rfl
  try simp only [Act.put,qk1,qk2,qk3,qk4,qk5,qk6]
  refine tkq 4 rfl (v := ?_) (.inl ⟨by rfl, ?_⟩) (by assumption) ?_
  rotate_left
  · intro W h; (try dsimp only at h); go_simp; try with_reducible rfl
  try simp only [Act.put,qk1,qk2,qk3,qk4,qk5,qk6]
  refine tkq 5 rfl (v := ?_) (.inl ⟨by rfl, ?_⟩) (by assumption) ?_
  rotate_left
  · intro W h; (try dsimp only at h); go_simp; try with_reducible rfl
  try simp only [Act.put,qk1,qk2,qk3,qk4,qk5,qk6]
  refine tkr 3 rfl (fun K hK => ?_)
  go_simp
  go_at_call 76
  refine (itoa_ok x.number HI_number.out _ (HEnv.out.below HB.out)).mono ?_
  rintro e u1 ⟨rfl, hs⟩
  have HX := hD (HX.out.below hs)
  have HB := hD (bon HB.out hs)
  have HO := hD (ownsRow_below HO.out hs)
  clear hs
  go_wp2_with fail
  have hS1 : World.cell? u1 ⟨w.heap.size, 3, none⟩ = some (.int .i64 x.slot) ∧ World.cell? u1 ⟨w.heap.size, 4, none⟩ = some (.int .i64 x.number) ∧ World.cell? u1 ⟨w.heap.size, 5, none⟩ = some (.string ⟨x.text.toArray⟩) ∧ World.cell? u1 ⟨w.heap.size, 6, none⟩ = some (.string ⟨x.result.toArray⟩) := ⟨HX.out.cells 3 _ rfl, HX.out.cells 4 _ rfl, HX.out.cells 5 _ rfl, HX.out.cells 6 _ rfl⟩
  refine hK.out _ _ hS1 (fun hHeld => ?_)
  clear hK K
  try simp only [Act.put,qk1,qk2,qk3,qk4,qk5,qk6]
  refine tkr 6 rfl (fun K hK => ?_)
  go_simp
  go_at_call 77
  refine (quote_any x.text _ (by omega)).mono ?_
  rintro e u2 ⟨rfl, hs⟩
  have HX := hD (HX.out.below hs)
  have HB := hD (bon HB.out hs)
  have HO := hD (ownsRow_below HO.out hs)
  clear hs
  go_wp2_with fail
  have hS2 : World.cell? u2 ⟨w.heap.size, 3, none⟩ = some (.int .i64 x.slot) ∧ World.cell? u2 ⟨w.heap.size, 4, none⟩ = some (.int .i64 x.number) ∧ World.cell? u2 ⟨w.heap.size, 5, none⟩ = some (.string ⟨x.text.toArray⟩) ∧ World.cell? u2 ⟨w.heap.size, 6, none⟩ = some (.string ⟨x.result.toArray⟩) := ⟨HX.out.cells 3 _ rfl, HX.out.cells 4 _ rfl, HX.out.cells 5 _ rfl, HX.out.cells 6 _ rfl⟩
  refine hK.out _ _ hS2 (fun hHeld => ?_)
  clear hK K
  try simp only [Act.put,qk1,qk2,qk3,qk4,qk5,qk6]
  refine tkr 7 rfl (fun K hK => ?_)
  go_simp
  have hs := below_new u2 (.cells #[.string ⟨(Lib.itoa x.number).toArray⟩, .string ⟨(Q06.quote x.text).toArray⟩] 9)
  have hb9 : w.heap.size < u2.heap.size := HX.out.lt
  have HN := hD (World.news_of_block (cs := #[.string ⟨(Lib.itoa x.number).toArray⟩, .string ⟨(Q06.quote x.text).toArray⟩]) (t := 9) (fr := (0, 0)) (heap_alloc_new u2 (.cells #[.string ⟨(Lib.itoa x.number).toArray⟩, .string ⟨(Q06.quote x.text).toArray⟩] 9)))
  have HX := hD (HX.out.below hs)
  have HB := hD (bon HB.out hs)
  have HO := hD (ownsRow_below HO.out hs)
  clear hs
  generalize u2.alloc (.cells #[.string ⟨(Lib.itoa x.number).toArray⟩, .string ⟨(Q06.quote x.text).toArray⟩] 9) = v1 at HX HB HO HN ⊢
  generalize u2.heap.size = b9 at HN hb9 ⊢
  have hSv : World.cell? v1 ⟨w.heap.size, 3, none⟩ = some (.int .i64 x.slot) ∧ World.cell? v1 ⟨w.heap.size, 4, none⟩ = some (.int .i64 x.number) ∧ World.cell? v1 ⟨w.heap.size, 5, none⟩ = some (.string ⟨x.text.toArray⟩) ∧ World.cell? v1 ⟨w.heap.size, 6, none⟩ = some (.string ⟨x.result.toArray⟩) := ⟨HX.out.cells 3 _ rfl, HX.out.cells 4 _ rfl, HX.out.cells 5 _ rfl, HX.out.cells 6 _ rfl⟩
  refine hK.out _ _ hSv (fun hHeld => ?_)
  clear hK K
  try simp only [Act.put,qk1,qk2,qk3,qk4,qk5,qk6]
  refine tkr 8 rfl (fun K hK => ?_)
  refine step_append_lies _ (by rfl) _ _ _ (by rfl) w.heap.size 9 i0 _ 1 16 Tryz.underlying32 HI.out HZ0.out HZ1.out HZ2.out rfl (by decide) _ _ _ (by rfl) HO.out _ 2 2 #[.string ⟨(Lib.itoa x.number).toArray⟩, .string ⟨(Q06.quote x.text).toArray⟩].toList (by rfl) (by rfl) HN.out (by simp [Value.oneCell']) (by omega) (by simp [maxLen]) (by omega) (by have := HX.out.lt; omega) _ rfl ?_
  intro g cap v2 hown hgrow hat hlt
  have HX := hD (HX.out.grownO hgrow (by simp [Value.ownBlock]; omega))
  have HB := hD (below_grown HB.out HB.out.size hgrow (fun g h => (HO.out.lt g h).1))
  have HO := hD hown
  clear hown hgrow hat hlt HN
  have hSw : World.cell? v2 ⟨w.heap.size, 3, none⟩ = some (.int .i64 x.slot) ∧ World.cell? v2 ⟨w.heap.size, 4, none⟩ = some (.int .i64 x.number) ∧ World.cell? v2 ⟨w.heap.size, 5, none⟩ = some (.string ⟨x.text.toArray⟩) ∧ World.cell? v2 ⟨w.heap.size, 6, none⟩ = some (.string ⟨x.result.toArray⟩) := ⟨HX.out.cells 3 _ rfl, HX.out.cells 4 _ rfl, HX.out.cells 5 _ rfl, HX.out.cells 6 _ rfl⟩
  refine hK.out _ _ hSw (fun hHeld => ?_)
  clear hK K
  try simp only [Act.put,qk1,qk2,qk3,qk4,qk5,qk6]
  refine tkr 9 rfl (fun K hK => ?_)
  go_simp
  refine hK.out _ _ hSw (fun hHeld => ?_)
  clear hK K
  try simp only [Act.put,qk1,qk2,qk3,qk4,qk5,qk6]
  refine wpAnyH_done (by kernel_rfl) ?_ _
  refine NoPanic.normal ?_
  clear hS0 hSv hSw hS1 hS2
  have HL : Hid (headParts x ++ kindParts x = [Lib.itoa x.time, wordK x.kind, Lib.itoa x.who, Lib.itoa x.number, Q06.quote x.text]) := hD (by rw [HKP.out]; rfl)
  have HJ : Hid (Calls Tryz.prog 79 #[.slice (some ⟨g, 0, none⟩) (3 + 2) cap, .string ⟨#[32]⟩] v2 (RetStr (Lib.join (headParts x ++ kindParts x) [32]) v2)) := hD (joinOwn_any w v2 g (3 + 2) cap _ (by rw [HL.out]; rfl) (by rw [HL.out]; exact HO.out) (by rw [HL.out]; simp) (Nat.le_trans HLen.out (by omega)) (by rw [HL.out]; simp))
  have hq : ¬ (9223372036854775807 < (Lib.join (headParts x ++ kindParts x) [32]).length + 1) := by have := HLen.out; omega
  go_wp2_with fail
  refine HJ.out.mono ?_
  rintro e w9 ⟨rfl, hs⟩
  have HB := hD (bon HB.out hs)
  clear hs
  go_wp2_with fail
  go_ret
  exact ret_line HB.out
 exact absurd HOne.out hk
end Go.Proofs.YtepbbaifpckcpaaGreatDoor
