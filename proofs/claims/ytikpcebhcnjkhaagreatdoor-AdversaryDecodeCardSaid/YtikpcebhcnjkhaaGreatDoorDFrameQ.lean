/- The frame of the laws: from the walk to the row; drafts, lies, sets that came in. -/
import Derived.Test.YtikpcebhcnjkhaaGreatDoorRows
import Derived.ProofKit
import Derived.OpenShut
import Derived.Below
import Derived.ChangeSame
import Derived.Deep.DeepHandedRow
import Derived.Deep.Slices
import Derived.Deep.Fields
import Derived.Lib.LaidTab
import Derived.ReadAgain
import Derived.LaidSub
import Derived.MakeChecks
import Derived.Lib.SmallJoins
import Derived.Stop.LaidErr
import Derived.Test.YtikpcebhcnjkhaaGreatDoorDPl
import Derived.Test.YtikpcebhcnjkhaaGreatDoorDA3
import Derived.Test.YtikpcebhcnjkhaaGreatDoorDEa
import Derived.Test.YtikpcebhcnjkhaaGreatDoorDA6
namespace Go.Proofs.YtikpcebhcnjkhaaGreatDoor.frame
open Go.Joins Go.ChangeShapes Go.WideShapes Go.ChangeAt Go.RowKit Go.Deep
open Go.ChangeMaps (open_string shut_string)
def d43C (a : Nat × Nat × Nat × Sl Dr) : List Value := [.int .u8 (a.1 : Int), .int .u8 (a.2.1 : Int), .int .u8 (a.2.2.1 : Int), .slice a.2.2.2.a a.2.2.2.l.length a.2.2.2.c]
theorem own : ownKnob Tryz.prog.godebug = none := by kernel_rfl
section
variable {H : Type} {enc : TypeId × Value → H} {P : Program}
theorem post_of_below {f : Func} {s : ChangeSpec} {apart fresh handsOn again : Bool} {W W' : World} {args : Array Value} {v : Value} {ds gs : List (DataW H)} {before pa pv : List MemPlace}
    (hW : DataW.Whole enc P f.params.toList s.vars apart W args.toList ds gs before)
    (hres : ∀ (b : Nat) (sp : Nat → Bool) (hd : Bool), DataW.TrodAll enc P W' b sp hd f.resultTypes.toList (v.resultList f.resultTypes.size) (s.fn H (ds ++ gs)).results [])
    (hargs : ∀ sp : Nat → Bool, (∀ p ∈ before, sp p.block = true) → DataW.TrodAll enc P W' 0 sp true f.params.toList args.toList (s.fn H (ds ++ gs)).args pa)
    (hvars : ∀ sp : Nat → Bool, (∀ p ∈ before, sp p.block = true) → DataW.TrodVars enc P W' sp s.vars (s.fn H (ds ++ gs)).vars pv)
    (hps : before = pa ++ pv) (hb : Below W.heap.size W W')
    (hok : ∀ (j : Nat) (t : TypeId) (r : Value), f.resultTypes[j]? = some t → (v.resultList f.resultTypes.size)[j]? = some r → Value.okWide P W' .any 0 t r) :
    s.post enc P f apart fresh handsOn again W args v W' := by
 have low : ∀ p ∈ before, p.block < W.heap.size := fun p hp => hW.lt p hp
 have old : ∀ p ∈ before, (fun b => decide (b < W.heap.size)) p.block = true := fun p hp => by simpa using low p hp
 refine ⟨ds, gs, before, [], pa, pv, hW, hres _ _ _, hargs _ old, hvars _ old, World.keptBut_mono (fun p hp => ⟨hp, .inr (by rw [hps, List.mem_append] at hp; exact hp)⟩) (hb.frame (· ∈ before)), fun _ => ?_⟩
 obtain ⟨_, _, _, _, _, hz, hn⟩ := hW
 refine ⟨hok, _, _, ([] ++ pa) ++ pv, ⟨[] ++ pa, pv, trodAll_append (hargs _ (fun _ _ => rfl)) (hres _ _ _), hvars _ (fun _ _ => rfl), rfl, ?_, ?_⟩, ?_⟩
 · intro b off hp
   have hin : MemPlace.cell b off ∈ before := by rw [hps]; simpa using hp
   rw [hb.frozen (low _ hin)]
   exact hz b off hin
 · intro ha
   have := hn ha
   rw [hps] at this
   simpa using this
 · intro p hp _
   rw [hps]
   simpa using hp
end
section
variable {H : Type} {enc : TypeId × Value → H} {P : Program} {w w' : World} {base : Nat} {spare : Nat → Bool} {held : Bool}
theorem trodAll_below : ∀ {ts : List TypeId} {vs : List Value} {ds : List (DataW H)} {ps : List MemPlace}, DataW.TrodAll enc P w base spare held ts vs ds ps → (∀ p ∈ ps, w.sameAt w' p) → DataW.TrodAll enc P w' base spare held ts vs ds ps
 | [], vs, ds, ps, h, _ => by
  obtain ⟨rfl, rfl, rfl⟩ := trodAll_nil h
  exact trodAll_mk0
 | t :: ts, vs, ds, ps, h, hs => by
  obtain ⟨v, vs', d, ds', p, p', rfl, rfl, rfl, h1, h2⟩ := trodAll_cons h
  obtain ⟨n, hn⟩ := h1
  exact trodAll_cons_mk ⟨n, DataW.trod_carry n _ _ _ hn (fun q hq => hs q (List.mem_append_left _ hq))⟩ (trodAll_below h2 (fun q hq => hs q (List.mem_append_right _ hq)))
end
section
variable {H : Type} {enc : TypeId × Value → H} {P : Program} {T : TypeId → Prop}
theorem post_true {f : Func} {s : ChangeSpec} {W W' : World} {args : Array Value} {ds : List (DataW H)} {before : List MemPlace} (K : Kids P T) (hz : ∀ t e, T t → P.underlying t = some (.slice e) → 0 < P.cellsOf e)
    (hv : s.vars = []) (hT : ∀ t ∈ f.params.toList, T t) (hr : f.resultTypes = #[4]) (hbool : P.underlying 4 = some .bool) (hs : s.fn H (ds ++ []) = { results := [.lit (.bool true)], args := ds })
    (hW : DataW.Whole enc P f.params.toList s.vars false W args.toList ds [] before) (hb : Below W.heap.size W W') :
    s.post enc P f false true false false W args (.bool true) W' := by
 have hW' := hW
 obtain ⟨p, q, hA, hV, rfl, hfz, hnd⟩ := hW
 rw [hv] at hV
 obtain ⟨-, rfl⟩ := trodVars_none hV
 simp only [List.append_nil] at hW'
 have hlt : ∀ x ∈ p, x.block < W.heap.size := fun x hx => hW'.lt x hx
 have hA' : DataW.TrodAll enc P W' 0 (fun _ => true) true f.params.toList args.toList ds p := trodAll_below hA (fun x hx => hb.same (hlt x hx))
 refine post_of_below (pa := p) (pv := []) hW' (fun _ _ _ => ?_) (fun sp hsp => ?_) (fun _ _ => ?_) (by simp) hb ?_
 · rw [hs, hr]
   exact trodAll_cons_mk (shut_bool hbool _) trodAll_mk0
 · rw [hs]
   exact DataW.TrodAll.respare K hz hT hA' hsp
 · rw [hv, hs]
   rfl
 · exact ok_one (t := 4) hr rfl (okWide_bool_mk hbool _)
end
theorem kids : Kids Tryz.prog (· < Tryz.prog.types.size) := kids_rows (by kernel_rfl) (by kernel_rfl)
theorem full : ∀ t e, t < Tryz.prog.types.size → Tryz.prog.underlying t = some (.slice e) → 0 < Tryz.prog.cellsOf e := slices_full_of Tryz.prog (by kernel_rfl)
theorem list_of {α : Type} (P : Nat → α → Prop) : ∀ n : Nat, (∀ i, i < n → ∃ x, P i x) → ∃ l : List α, l.length = n ∧ ∀ (i : Nat) (hi : i < l.length), P i l[i]
 | 0, _ => ⟨[], rfl, fun i hi => by simp at hi⟩
 | n + 1, h => by
  obtain ⟨l, h1, h2⟩ := list_of P n (fun i hi => h i (by omega))
  obtain ⟨x, hx⟩ := h n (by omega)
  refine ⟨l ++ [x], by simp [h1], fun i hi => ?_⟩
  by_cases hlt : i < l.length
  · rw [List.getElem_append_left hlt]; exact h2 i hlt
  · have hi2 : i = n := by simp at hi; omega
    subst hi2
    rw [List.getElem_append_right (by omega)]
    simpa [h1] using hx
theorem cells_uint8 : Tryz.prog.cellsOf 5 = 1 := by kernel_rfl
theorem cells_uint16 : Tryz.prog.cellsOf 25 = 1 := by kernel_rfl
theorem cells_api_Set : Tryz.prog.cellsOf 26 = 1 := by kernel_rfl
theorem cells_api_Fault : Tryz.prog.cellsOf 159 = 2 := by kernel_rfl
theorem cells___uint16 : Tryz.prog.cellsOf 71 = 1 := by kernel_rfl
theorem cells___api_Fault : Tryz.prog.cellsOf 72 = 1 := by kernel_rfl
theorem cells_sederuntref27_Draft : Tryz.prog.cellsOf 74 = 6 := by kernel_rfl
theorem cells___sederuntref27_Draft : Tryz.prog.cellsOf 22 = 1 := by kernel_rfl
theorem cells_sederuntref43_Draft : Tryz.prog.cellsOf 24 = 4 := by kernel_rfl
section
variable {H : Type} {enc : TypeId × Value → H} {W : World}
theorem split1 {α : Type} {l : List α} {n : Nat} (h : l.length = n + 1) : ∃ a r, l = a :: r ∧ r.length = n := by
 cases l with
 | nil => simp at h
 | cons a r => exact ⟨a, r, rfl, by simpa using h⟩
theorem sum_bulk {α : Type} (sz : α → Nat) : ∀ (l : List α) (ds : List (DataW H)), l.length = ds.length → (∀ (i : Nat) (h1 : i < l.length) (h2 : i < ds.length), sz l[i] ≤ Rows.uptoBulk ds[i]) → sum sz l ≤ Rows.uptoBulkAll ds
 | [], [], _, _ => by simp [sum]
 | x :: r, d :: s, h, hi => by
  have h0 := hi 0 (by simp) (by simp)
  have h1 := sum_bulk sz r s (by simpa using h) (fun i a b => hi (i + 1) (by simpa using a) (by simpa using b))
  rw [sum_cons]
  simp only [Rows.uptoBulkAll]
  simp only [List.getElem_cons_zero] at h0
  omega
theorem slice_in {α : Type} {t e : TypeId} {k : Nat} {C : α → List Value} {sz : α → Nat} {ok : α → Prop} (hC : ∀ a, (C a).length = k) (hk : 0 < k) (ht : Tryz.prog.underlying t = some (.slice e)) (hcells : Tryz.prog.cellsOf e = k)
    (hel : ∀ (n : Nat) (cs : List Value) (x : DataW H × List MemPlace), DataW.trod enc Tryz.prog W 0 (fun _ => true) true n e cs = some x → ∃ a, cs = C a ∧ ok a ∧ sz a ≤ Rows.uptoBulk x.1)
    {fuel : Nat} {v : Value} {x : DataW H × List MemPlace} (h : DataW.trod enc Tryz.prog W 0 (fun _ => true) true fuel t [v] = some x) :
    ∃ s : Sl α, v = s.v ∧ s.rd k C W ∧ (∀ a ∈ s.l, ok a) ∧ sum sz s.l + 1 ≤ Rows.uptoBulk x.1 := by
 rcases open_slice ht h with ⟨hv, hx⟩ | ⟨a, len, cap, m, n, D, Pl, hv, _, hlc, hcm, hm, hx, hi⟩
 · simp only [List.cons.injEq, and_true] at hv
   refine ⟨Sl.nil, hv, ⟨by simp [Sl.nil], fun h0 => by simp [Sl.nil] at h0⟩, fun a ha => by simp [Sl.nil] at ha, ?_⟩
   rw [hx]; simp [Sl.nil, sum, Rows.uptoBulk]
 · simp only [List.cons.injEq, and_true] at hv
   simp only [if_pos] at hm
   rw [hcells] at hi
   obtain ⟨l, hl, hp⟩ := list_of (fun i (r : α) => (∀ (j : Nat) (u : Value), (C r)[j]? = some u → W.cell? (a.add (i * k + j)) = some u) ∧ ok r ∧ sz r ≤ Rows.uptoBulk (D i)) len (fun i hlt => by
    obtain ⟨cs', hc, ht'⟩ := hi i (by omega)
    obtain ⟨r, hr, hok, hsz⟩ := hel n cs' _ ht'
    obtain ⟨_, hcl, hat⟩ := World.cells?_some hc
    refine ⟨r, fun j u hu => ?_, hok, hsz⟩
    have hj : j < k := by
     have := (List.getElem?_eq_some_iff.1 hu).1
     rwa [hC] at this
    rw [← Go.Deep.add_add, hat j hj, hr]
    exact hu)
   refine ⟨⟨some a, cap, l⟩, by rw [hv]; show _ = Value.slice (some a) l.length cap; rw [hl], ⟨flat_len C k hC l, fun h0 => ?_⟩, fun r hr => ?_, ?_⟩
   · have hpos : 0 < l.length := by
       show 0 < l.length
       have h1 : 0 < (l.flatMap C).length := h0
       rw [flat_len C k hC l] at h1
       exact Nat.pos_of_ne_zero (fun h => by rw [h] at h1; simp at h1)
     obtain ⟨b, o, sp⟩ := a
     have hfirst : ∃ u, (C l[0])[0]? = some u := ⟨_, List.getElem?_eq_getElem (by rw [hC]; exact hk)⟩
     obtain ⟨u0, hu0⟩ := hfirst
     have hcell0 := (hp 0 hpos).1 0 u0 hu0
     have hsp : sp = none := by simpa [Addr.add] using World.cell?_spot hcell0
     subst hsp
     refine ⟨b, o, rfl, (by have h9 := World.block_lt_of_cell? W _ hcell0; rw [add_plain'] at h9; exact h9), fun j u hu => ?_⟩
     have hu' : (l.flatMap C)[j]? = some u := hu
     have hj : j < (l.flatMap C).length := (List.getElem?_eq_some_iff.1 hu').1
     rw [flat_len C k hC l] at hj
     have hq : j / k < l.length := (Nat.div_lt_iff_lt_mul hk).2 hj
     have hj2 : j / k * k + j % k = j := by rw [Nat.mul_comm]; exact Nat.div_add_mod j k
     have h1 := flat_get C k hC l (j / k) hq (j % k) (Nat.mod_lt _ hk)
     rw [hj2, hu'] at h1
     have := (hp (j / k) hq).1 (j % k) u h1.symm
     rw [hj2, add_plain'] at this
     exact this
   · obtain ⟨i, hi2, rfl⟩ := List.getElem_of_mem hr
     exact (hp i hi2).2.1
   · rw [hx]
     have h1 := sum_bulk (H := H) sz l ((List.range len).map D) (by simpa using hl) (fun i a1 a2 => by
      simp only [List.getElem_map, List.getElem_range]
      exact (hp i a1).2.2)
     simp only [Rows.uptoBulk]
     omega
theorem wf_u8 {z : Int} (h : (Lit.int .u8 z).wf = true) : ∃ n : Nat, z = n ∧ n < 256 := by
 simp only [Lit.wf, IntKind.min, IntKind.max, IntKind.signed, IntKind.bits, Bool.and_eq_true] at h
 exact ⟨z.toNat, by simp at h; omega, by simp at h; omega⟩
theorem wf_u16 {z : Int} (h : (Lit.int .u16 z).wf = true) : ∃ n : Nat, z = n ∧ n < 65536 := by
 simp only [Lit.wf, IntKind.min, IntKind.max, IntKind.signed, IntKind.bits, Bool.and_eq_true] at h
 exact ⟨z.toNat, by simp at h; omega, by simp at h; omega⟩
theorem U16_in (n : Nat) (cs : List Value) (x : DataW H × List MemPlace) (h : DataW.trod enc Tryz.prog W 0 (fun _ => true) true n 25 cs = some x) : ∃ a : Nat, cs = [.int .u16 (a : Int)] ∧ a < 65536 ∧ 0 ≤ Rows.uptoBulk x.1 := by
 obtain ⟨a, e, _, w⟩ := DataW.trod_int Tryz.underlying25 h
 obtain ⟨b, rfl, hb⟩ := wf_u16 w
 exact ⟨b, e, hb, Nat.zero_le _⟩
theorem U8_in (n : Nat) (cs : List Value) (x : DataW H × List MemPlace) (h : DataW.trod enc Tryz.prog W 0 (fun _ => true) true n 5 cs = some x) : ∃ a : Nat, cs = [.int .u8 (a : Int)] ∧ a < 256 ∧ 0 ≤ Rows.uptoBulk x.1 := by
 obtain ⟨a, e, _, w⟩ := DataW.trod_int Tryz.underlying5 h
 obtain ⟨b, rfl, hb⟩ := wf_u8 w
 exact ⟨b, e, hb, Nat.zero_le _⟩
theorem setC_flat (l : List Nat) : l.flatMap (fun a : Nat => [Value.int .u16 (a : Int)]) = setC l := by
 induction l with
 | nil => rfl
 | cons x r ih => rw [List.flatMap_cons, ih]; rfl
set_option maxHeartbeats 2000000 in
theorem Flt_in (n : Nat) (cs : List Value) (x : DataW H × List MemPlace) (h : DataW.trod enc Tryz.prog W 0 (fun _ => true) true n 159 cs = some x) : ∃ a : Nat × Nat, cs = fltC a ∧ (a.1 < 65536 ∧ a.2 < 65536) ∧ 0 ≤ Rows.uptoBulk x.1 := by
 obtain ⟨ys, n', _, rfl, hl, hyl, hf⟩ := DataW.trod_struct Tryz.underlying159 h
 rw [cells_api_Fault] at hl
 obtain ⟨c0, r0, rfl, hl0⟩ := split1 hl
 obtain ⟨c1, r1, rfl, hl1⟩ := split1 hl0
 obtain rfl := List.length_eq_zero_iff.1 hl1
 obtain ⟨y0, q0, rfl, hyl0⟩ := split1 (n := 1) hyl
 obtain ⟨y1, q1, rfl, hyl1⟩ := split1 (n := 0) hyl0
 obtain rfl := List.length_eq_zero_iff.1 hyl1
 have t0 : DataW.trod enc Tryz.prog W 0 (fun _ => true) true n' 26 [c0] = some y0 := by
  have h9 := hf 0 _ rfl
  simp only [qk4,qk6,cells_api_Set,qd2,qd3,qd4,qd6] at h9
  exact h9
 obtain ⟨a0, e0, x0, w0⟩ := DataW.trod_int Tryz.underlying26 t0
 obtain rfl : c0 = _ := by simpa using e0
 obtain ⟨b0, rfl, k0⟩ := wf_u16 w0
 have t1 : DataW.trod enc Tryz.prog W 0 (fun _ => true) true n' 26 [c1] = some y1 := by
  have h9 := hf 1 _ rfl
  simp only [qk4,qk5,qk6,cells_api_Set,qd1,qd2,qd3,qd4,qd5,qd6] at h9
  exact h9
 obtain ⟨a1, e1, x1, w1⟩ := DataW.trod_int Tryz.underlying26 t1
 obtain rfl : c1 = _ := by simpa using e1
 obtain ⟨b1, rfl, k1⟩ := wf_u16 w1
 exact ⟨(b0, b1), rfl, ⟨k0, k1⟩, Nat.zero_le _⟩
set_option maxHeartbeats 2000000 in
theorem Dr_in (n : Nat) (cs : List Value) (x : DataW H × List MemPlace) (h : DataW.trod enc Tryz.prog W 0 (fun _ => true) true n 74 cs = some x) : ∃ a : Dr, cs = drC a ∧ a.ok W ∧ 0 ≤ Rows.uptoBulk x.1 := by
 obtain ⟨ys, n', _, rfl, hl, hyl, hf⟩ := DataW.trod_struct Tryz.underlying74 h
 rw [cells_sederuntref27_Draft] at hl
 obtain ⟨c0, r0, rfl, hl0⟩ := split1 hl
 obtain ⟨c1, r1, rfl, hl1⟩ := split1 hl0
 obtain ⟨c2, r2, rfl, hl2⟩ := split1 hl1
 obtain ⟨c3, r3, rfl, hl3⟩ := split1 hl2
 obtain ⟨c4, r4, rfl, hl4⟩ := split1 hl3
 obtain ⟨c5, r5, rfl, hl5⟩ := split1 hl4
 obtain rfl := List.length_eq_zero_iff.1 hl5
 obtain ⟨y0, q0, rfl, hyl0⟩ := split1 (n := 5) hyl
 obtain ⟨y1, q1, rfl, hyl1⟩ := split1 (n := 4) hyl0
 obtain ⟨y2, q2, rfl, hyl2⟩ := split1 (n := 3) hyl1
 obtain ⟨y3, q3, rfl, hyl3⟩ := split1 (n := 2) hyl2
 obtain ⟨y4, q4, rfl, hyl4⟩ := split1 (n := 1) hyl3
 obtain ⟨y5, q5, rfl, hyl5⟩ := split1 (n := 0) hyl4
 obtain rfl := List.length_eq_zero_iff.1 hyl5
 have t0 : DataW.trod enc Tryz.prog W 0 (fun _ => true) true n' 5 [c0] = some y0 := by
  have h9 := hf 0 _ rfl
  simp only [qk4,qk6,cells_uint8,qd2,qd3,qd4,qd6] at h9
  exact h9
 obtain ⟨a0, e0, x0, w0⟩ := DataW.trod_int Tryz.underlying5 t0
 obtain rfl : c0 = _ := by simpa using e0
 obtain ⟨b0, rfl, k0⟩ := wf_u8 w0
 have t1 : DataW.trod enc Tryz.prog W 0 (fun _ => true) true n' 5 [c1] = some y1 := by
  have h9 := hf 1 _ rfl
  simp only [qk4,qk5,qk6,cells_uint8,qd1,qd2,qd3,qd4,qd5,qd6] at h9
  exact h9
 obtain ⟨a1, e1, x1, w1⟩ := DataW.trod_int Tryz.underlying5 t1
 obtain rfl : c1 = _ := by simpa using e1
 obtain ⟨b1, rfl, k1⟩ := wf_u8 w1
 have t2 : DataW.trod enc Tryz.prog W 0 (fun _ => true) true n' 5 [c2] = some y2 := by
  have h9 := hf 2 _ rfl
  simp only [qk4,qk5,qk6,cells_uint8,qd1,qd2,qd3,qd4,qd5,qd6] at h9
  exact h9
 obtain ⟨a2, e2, x2, w2⟩ := DataW.trod_int Tryz.underlying5 t2
 obtain rfl : c2 = _ := by simpa using e2
 obtain ⟨b2, rfl, k2⟩ := wf_u8 w2
 have t3 : DataW.trod enc Tryz.prog W 0 (fun _ => true) true n' 71 [c3] = some y3 := by
  have h9 := hf 3 _ rfl
  simp only [qk4,qk5,qk6,cells___uint16,qd1,qd2,qd3,qd4,qd5,qd6] at h9
  exact h9
 obtain ⟨a3, e3, rd3, ok3, x3⟩ := slice_in (C := fun a : Nat => [Value.int .u16 (a : Int)]) (sz := fun _ => 0) (ok := fun a : Nat => a < 65536) (k := 1) (fun _ => rfl) (by decide) Tryz.underlying71 cells_uint16 (fun n cs x h => U16_in n cs x h) t3
 obtain rfl : c3 = _ := e3
 have t4 : DataW.trod enc Tryz.prog W 0 (fun _ => true) true n' 71 [c4] = some y4 := by
  have h9 := hf 4 _ rfl
  simp only [qk4,qk5,qk6,cells___uint16,qd1,qd2,qd3,qd4,qd5,qd6] at h9
  exact h9
 obtain ⟨a4, e4, rd4, ok4, x4⟩ := slice_in (C := fun a : Nat => [Value.int .u16 (a : Int)]) (sz := fun _ => 0) (ok := fun a : Nat => a < 65536) (k := 1) (fun _ => rfl) (by decide) Tryz.underlying71 cells_uint16 (fun n cs x h => U16_in n cs x h) t4
 obtain rfl : c4 = _ := e4
 have t5 : DataW.trod enc Tryz.prog W 0 (fun _ => true) true n' 72 [c5] = some y5 := by
  have h9 := hf 5 _ rfl
  simp only [qk4,qk5,qk6,cells___api_Fault,qd1,qd2,qd3,qd4,qd5,qd6] at h9
  exact h9
 obtain ⟨a5, e5, rd5, ok5, x5⟩ := slice_in (C := fltC) (sz := fun _ => 0) (ok := fun a : Nat × Nat => a.1 < 65536 ∧ a.2 < 65536) (k := 2) (fun _ => rfl) (by decide) Tryz.underlying72 cells_api_Fault (fun n cs x h => Flt_in n cs x h) t5
 obtain rfl : c5 = _ := e5
 have r3 : Rd W 1 a3.a a3.l.length (setC a3.l) := by rw [← setC_flat]; exact rd3
 have r4 : Rd W 1 a4.a a4.l.length (setC a4.l) := by rw [← setC_flat]; exact rd4
 exact ⟨⟨b0, b1, b2, a3, a4, a5⟩, rfl, ⟨k2, k0, r3, ok3, r4, ok4, rd5⟩, Nat.zero_le _⟩
set_option maxHeartbeats 2000000 in
theorem D43_in (n : Nat) (cs : List Value) (x : DataW H × List MemPlace) (h : DataW.trod enc Tryz.prog W 0 (fun _ => true) true n 24 cs = some x) : ∃ a : Nat × Nat × Nat × Sl Dr, cs = d43C a ∧ (a.1 < 256 ∧ a.2.1 < 256 ∧ a.2.2.1 < 256 ∧ Rd W 6 a.2.2.2.a a.2.2.2.l.length (a.2.2.2.l.flatMap drC) ∧ ∀ d ∈ a.2.2.2.l, d.ok W) ∧ 0 ≤ Rows.uptoBulk x.1 := by
 obtain ⟨ys, n', _, rfl, hl, hyl, hf⟩ := DataW.trod_struct Tryz.underlying24 h
 rw [cells_sederuntref43_Draft] at hl
 obtain ⟨c0, r0, rfl, hl0⟩ := split1 hl
 obtain ⟨c1, r1, rfl, hl1⟩ := split1 hl0
 obtain ⟨c2, r2, rfl, hl2⟩ := split1 hl1
 obtain ⟨c3, r3, rfl, hl3⟩ := split1 hl2
 obtain rfl := List.length_eq_zero_iff.1 hl3
 obtain ⟨y0, q0, rfl, hyl0⟩ := split1 (n := 3) hyl
 obtain ⟨y1, q1, rfl, hyl1⟩ := split1 (n := 2) hyl0
 obtain ⟨y2, q2, rfl, hyl2⟩ := split1 (n := 1) hyl1
 obtain ⟨y3, q3, rfl, hyl3⟩ := split1 (n := 0) hyl2
 obtain rfl := List.length_eq_zero_iff.1 hyl3
 have t0 : DataW.trod enc Tryz.prog W 0 (fun _ => true) true n' 5 [c0] = some y0 := by
  have h9 := hf 0 _ rfl
  simp only [qk4,qk6,cells_uint8,qd2,qd3,qd4,qd6] at h9
  exact h9
 obtain ⟨a0, e0, x0, w0⟩ := DataW.trod_int Tryz.underlying5 t0
 obtain rfl : c0 = _ := by simpa using e0
 obtain ⟨b0, rfl, k0⟩ := wf_u8 w0
 have t1 : DataW.trod enc Tryz.prog W 0 (fun _ => true) true n' 5 [c1] = some y1 := by
  have h9 := hf 1 _ rfl
  simp only [qk4,qk5,qk6,cells_uint8,qd1,qd2,qd3,qd4,qd5,qd6] at h9
  exact h9
 obtain ⟨a1, e1, x1, w1⟩ := DataW.trod_int Tryz.underlying5 t1
 obtain rfl : c1 = _ := by simpa using e1
 obtain ⟨b1, rfl, k1⟩ := wf_u8 w1
 have t2 : DataW.trod enc Tryz.prog W 0 (fun _ => true) true n' 5 [c2] = some y2 := by
  have h9 := hf 2 _ rfl
  simp only [qk4,qk5,qk6,cells_uint8,qd1,qd2,qd3,qd4,qd5,qd6] at h9
  exact h9
 obtain ⟨a2, e2, x2, w2⟩ := DataW.trod_int Tryz.underlying5 t2
 obtain rfl : c2 = _ := by simpa using e2
 obtain ⟨b2, rfl, k2⟩ := wf_u8 w2
 have t3 : DataW.trod enc Tryz.prog W 0 (fun _ => true) true n' 22 [c3] = some y3 := by
  have h9 := hf 3 _ rfl
  simp only [qk4,qk5,qk6,cells___sederuntref27_Draft,qd1,qd2,qd3,qd4,qd5,qd6] at h9
  exact h9
 obtain ⟨a3, e3, rd3, ok3, x3⟩ := slice_in (C := drC) (sz := fun _ => 0) (ok := fun a : Dr => a.ok W) (k := 6) (fun _ => rfl) (by decide) Tryz.underlying22 cells_sederuntref27_Draft (fun n cs x h => Dr_in n cs x h) t3
 obtain rfl : c3 = _ := e3
 exact ⟨(b0, b1, b2, a3), rfl, ⟨k0, k1, k2, rd3, ok3⟩, Nat.zero_le _⟩
set_option maxRecDepth 100000 in
theorem cells_of_agg {base : Nat} {t : TypeId} {fs : Array Field} {v : Value} (ht : Tryz.prog.underlying t = some (.struct fs)) (hv : Value.okWide Tryz.prog W .any base t v) : ∃ cs : Array Value, v = .agg cs := by
 unfold Value.okWide at hv
 rw [ht] at hv
 obtain ⟨cs, h, _⟩ := hv
 exact ⟨cs, h⟩
set_option maxRecDepth 100000 in
theorem draft_in {base : Nat} {v : Value} {d : DataW H} {p : List MemPlace} (hv : Value.okWide Tryz.prog W .any base 24 v) (h : DataW.Trod enc Tryz.prog W 0 (fun _ => true) true 24 v d p) :
    ∃ (N Wt C : Nat) (x : Sl Dr), v = .agg #[.int .u8 (N : Int), .int .u8 (Wt : Int), .int .u8 (C : Int), .slice x.a x.l.length x.c] ∧ N < 256 ∧ Wt < 256 ∧ C < 256 ∧ Rd W 6 x.a x.l.length (x.l.flatMap drC) ∧ ∀ d ∈ x.l, d.ok W := by
 obtain ⟨cs, rfl⟩ := cells_of_agg Tryz.underlying24 hv
 obtain ⟨n, hn⟩ := h
 obtain ⟨a, hm, ⟨h1, h2, h3, h4, h5⟩, _⟩ := D43_in n _ _ hn
 have hm' : cs.toList = d43C a := hm
 refine ⟨a.1, a.2.1, a.2.2.1, a.2.2.2, ?_, h1, h2, h3, h4, h5⟩
 have : cs = (d43C a).toArray := by rw [← hm']
 rw [this]
 rfl
set_option maxRecDepth 100000 in
theorem set_in {base : Nat} {v : Value} {d : DataW H} {p : List MemPlace} (hv : Value.okWide Tryz.prog W .any base 26 v) (h : DataW.Trod enc Tryz.prog W 0 (fun _ => true) true 26 v d p) :
    ∃ s : Nat, v = .int .u16 (s : Int) ∧ s < 65536 := by
 obtain ⟨z, rfl⟩ := okWide_int Tryz.underlying26 hv
 obtain ⟨fuel, hf⟩ := h
 obtain ⟨a, ha, -, wa⟩ := DataW.trod_int Tryz.underlying26 hf
 simp [Value.cells] at ha
 subst ha
 obtain ⟨s, rfl, hs⟩ := wf_u16 wa
 exact ⟨s, rfl, hs⟩
end
def lay (cs : Array Value) : Obj → Obj
 | .cells _ t frozen => .cells cs t frozen
 | o => o
def intsOf : DataW Unit → Array Value
 | .agg l => (l.map fun | .lit (.int k z) => Value.int k z | _ => Value.bool false).toArray
 | _ => #[]
def tabZ : List Int := [0, 1, 28, 2, 29, 14, 24, 3, 30, 22, 20, 15, 25, 17, 4, 8, 31, 27, 13, 23, 21, 19, 16, 7, 26, 12, 18, 6, 11, 5, 10, 9]
set_option maxRecDepth 100000 in
theorem tab_of {W : World} {L : List (String × DataW Unit)} (h : laidMetH Tryz.prog L W) (hp : L.filter (fun x => x.1 == "math/bits.deBruijn32tab") = [("math/bits.deBruijn32tab", Rows.laid_math_bits_deBruijn32tab)]) : Lib.TabIs Tryz.prog W "math/bits.deBruijn32tab" .u8 tabZ := by
 have h2 := h.filter (fun x => x.1 == "math/bits.deBruijn32tab")
 rw [hp] at h2
 rw [Go.MakeChecks.laidMetH_plain _ _ _ (by kernel_rfl)] at h2
 exact Lib.tabIs_of_head (rest := []) (t := 144) (e := 5) (n := 32) (g := 0) (by kernel_rfl) (by kernel_rfl) (by kernel_rfl) (by kernel_rfl) (by kernel_rfl) (by kernel_rfl) h2
set_option maxRecDepth 100000 in
theorem envP_of {W : World} {L : List (String × DataW Unit)} (h : laidMetH Tryz.prog L W) (hp : L.filter (fun x => x.1 == "internal/strconv.uint64pow10") = [("internal/strconv.uint64pow10", Rows.laid_internal_strconv_uint64pow10)]) : Q40.EnvP W := by
 refine ⟨?_⟩
 have h2 := h.filter (fun x => x.1 == "internal/strconv.uint64pow10")
 rw [hp] at h2
 rw [Go.MakeChecks.laidMetH_plain _ _ _ (by kernel_rfl)] at h2
 exact Lib.tabIs_of_head (rest := []) (t := 251) (e := 163) (n := 20) (g := 3) (by kernel_rfl) (by kernel_rfl) (by kernel_rfl) (by kernel_rfl) (by kernel_rfl) (by kernel_rfl) h2
noncomputable def laidWorld (os : Os) : World :=
 { World.holding Tryz.prog os ⟨#[], #[], []⟩ with heap := (((World.holding Tryz.prog os ⟨#[], #[], []⟩).heap.modify 3 (lay (intsOf Rows.laid_internal_strconv_uint64pow10))).modify 0 (lay (intsOf Rows.laid_math_bits_deBruijn32tab))).modify 4 (lay (intsOf Rows.laid_math_bits_deBruijn64tab)) }
set_option maxRecDepth 100000 in
theorem laid_met (os : Os) (args : Array Value) : laidMet Tryz.prog Rows.adversaryValidRow.laid ((laidWorld os).forCall (fun _ _ => 0) ⟨#[], args, []⟩).memory :=
 laidMet_of_run' 8 (by kernel_rfl) (by kernel_rfl)
end Go.Proofs.YtikpcebhcnjkhaaGreatDoor.frame
