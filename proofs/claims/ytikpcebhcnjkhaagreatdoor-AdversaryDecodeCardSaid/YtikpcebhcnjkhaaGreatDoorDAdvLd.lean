/- The law AdversaryDecode. -/
import Derived.Deep.Cut
import Derived.Deep.CutRange
import Derived.Test.YtikpcebhcnjkhaaGreatDoorDPl
import Derived.Test.YtikpcebhcnjkhaaGreatDoorDPe
import Derived.Test.YtikpcebhcnjkhaaGreatDoorDAdvAk
import Derived.Test.YtikpcebhcnjkhaaGreatDoorDAdvN
import Derived.Test.YtikpcebhcnjkhaaGreatDoorDAdvXo
namespace Go.Proofs.YtikpcebhcnjkhaaGreatDoor
open Go.RowKit Q40
def byC (n : Nat) : List Value := [.int .u8 (n : Int)]
theorem byC_flat (l : List Nat) : l.flatMap byC = BY l := by
 induction l with
 | nil => rfl
 | cons x r ih => rw [List.flatMap_cons, ih]; rfl
theorem byC_one (l : List Nat) : ∀ u ∈ l.flatMap byC, u.oneCell' = true := by
 intro u hu
 obtain ⟨r, _, hr⟩ := List.mem_flatMap.1 hu
 simp only [byC, List.mem_cons, List.not_mem_nil, or_false] at hr
 rw [hr]; rfl
theorem infoU8 : (Tryz.prog.info? 5).map (fun i => (i.zero, i.size, i.bytes)) = some (some (.int .u8 0), 1, 1) := by kernel_rfl
def OwnBys (l : List Nat) (w : World) (e : Ending) (w' : World) : Prop := ∃ A c, e = .returned (.slice A l.length c) ∧ w'.ownsRow w.heap.size 5 1 (.slice A l.length c) l.length (l.flatMap byC) ∧ Below w.heap.size w w'
theorem OwnBys.ret {l : List Nat} {w w' : World} {n c : Nat} {A : Option Addr} (hn : n = l.length) (h : w'.ownsRow w.heap.size 5 1 (.slice A n c) n (l.flatMap byC)) (hb : Below w.heap.size w w') : OwnBys l w (.returned (.slice A n c)) w' := by
 subst hn; exact ⟨A, c, rfl, h, hb⟩
set_option maxRecDepth 100000 in
set_option maxHeartbeats 1000000 in
theorem cloneBy_any (A : Option Addr) (c : Nat) (l : List Nat) (w : World) (h : Rd w 1 A l.length (l.flatMap byC)) (hn : l.length ≤ 1048576) :
    Calls Tryz.prog 15 #[.slice A l.length c] w (OwnBys l w) := by
 obtain ⟨i0, hi, hz0, hz1, hz2⟩ := info_parts infoU8
 have HI := hD hi
 have HZ0 := hD hz0
 have HZ1 := hD hz1
 have HZ2 := hD hz2
 have HR := hD h
 have HOne := hD (byC_one l)
 have q22 : ∀ (w : World) (a : Option Addr) (n c n' c' : Nat), (binOp .eql 53 (.slice a n c) (.slice none n' c')).run Tryz.prog w = .ok (.bool a.isNone) w := fun w a n c n' c' => Lib.run_eql_slice_nil w _ _ a n c n' c' Tryz.underlying53
 clear hi hz0 hz1 hz2 h
 cases A with
 | none =>
  have hl : l.length = 0 := by
   by_cases hp : 0 < l.length
   · obtain ⟨b, o, e, _⟩ := HR.out.cells (by rw [flat_len byC 1 (fun _ => rfl)]; omega)
     simp at e
   · omega
  obtain rfl : l = [] := List.eq_nil_of_length_eq_zero hl
  clear hl
  go_enter Tryz.func15, Tryz.ntmps15
  go_wp2_with fail
  go_ret
  exact OwnBys.ret rfl (World.ownsRow_nil _ _ _ _) (Below.refl _ _)
 | some a =>
  have HO := hD (World.ownsRow_lit (base := w.heap.size) (e := 5) (size := 1) w #[] 0 (Nat.le_refl _) (by simp) rfl)
  have hnews : ∀ j u, (l.flatMap byC)[j]? = some u → (w.alloc (.cells #[] 5)).cell? (a.add j) = some u := fun j u hu => by
   have hj : j < (l.flatMap byC).length := (List.getElem?_eq_some_iff.1 hu).1
   obtain ⟨b, o, e, hb, hc⟩ := HR.out.cells (by omega)
   simp only [Option.some.injEq] at e
   subst e
   rw [add_plain']
   exact ((below_new w _).cell (p := ⟨b, o + j, none⟩) hb).trans (hc j u hu)
  have HN := hD hnews
  have HLen := hD (flat_len byC 1 (fun _ => rfl) l)
  clear hnews
  go_enter Tryz.func15, Tryz.ntmps15
  go_wp2_with (at_builtin; refine wpList_append_own _ rfl _ _ 53 rfl w.heap.size 5 i0 _ 1 1 Tryz.underlying53 HI.out HZ0.out HZ1.out HZ2.out rfl (by decide) _ 0 [] rfl HO.out a l.length c (l.flatMap byC) rfl HLen.out HN.out HOne.out (by simp [maxLen]; omega) (by omega) (by simp) ?_)
  intro v' w2 hown' hgrow _
  obtain ⟨A, c2, hv⟩ := ownsRow_form hown'
  subst hv
  have HO2 := hD hown'
  have HG2 := hD hgrow
  clear hown' hgrow
  go_wp2_with fail
  go_ret
  exact OwnBys.ret rfl HO2.out (below_grown (below_new w _) (by simp) HG2.out (fun g hg => by simp [Value.ownBlock] at hg; omega))
def RetBys (l : List Nat) (w : World) (e : Ending) (w' : World) : Prop := ∃ A c, e = .returned (.slice A l.length c) ∧ Rd w' 1 A l.length (BY l) ∧ Below w.heap.size w w'
theorem cloneB (A : Option Addr) (c : Nat) (l : List Nat) (w : World) (h : Rd w 1 A l.length (BY l)) (hn : l.length ≤ 1048576) : Calls Tryz.prog 15 #[.slice A l.length c] w (RetBys l w) := by
 refine (cloneBy_any A c l w (by rw [byC_flat]; exact h) hn).mono ?_
 rintro e w' ⟨A', c', rfl, ho, hb⟩
 rw [byC_flat] at ho
 exact ⟨A', c', rfl, Rd.own ho, hb⟩
theorem mem_memTo {s n x : Nat} (h : x ∈ memTo s n) : x < n ∧ s.testBit x = true := by
 have h1 := List.mem_filter.1 h
 exact ⟨by simpa using h1.1, h1.2⟩
theorem inR_yes {x a b : Int} (h1 : a ≤ x) (h2 : x ≤ b) : inR x a b = true := by unfold inR; rw [decide_eq_true h1, decide_eq_true h2]; rfl
theorem valid_dec (n k s : Nat) (bs : List Nat) (h256 : ∀ x ∈ bs, x < 256) (_hn : 1 ≤ n) (h : decErr n s bs = 0) : vLi n k s (decLie n k s bs) = 0 := by
 unfold decErr at h
 by_cases h7 : bs.length = 7
 · rw [if_pos h7] at h
   cases hm : (memTo s n).isEmpty
   · have ho : decOk n s bs = true := by unfold decOk; rw [decide_eq_true h7, hm]; rfl
     unfold decLie
     rw [if_pos ho]
     have hml : 0 < (memTo s n).length := by
      cases hh : memTo s n with
      | nil => rw [hh] at hm; simp at hm
      | cons x r => simp
     have hi : bs.getD 1 0 % (memTo s n).length < (memTo s n).length := Nat.mod_lt _ hml
     obtain ⟨lv, hlv⟩ : ∃ lv, lv = (memTo s n).getD (bs.getD 1 0 % (memTo s n).length) 0 := ⟨_, rfl⟩
     have hin : lv ∈ memTo s n := by
      rw [hlv, List.getD_eq_getElem?_getD, List.getElem?_eq_getElem hi]
      exact List.getElem_mem hi
     have hl := mem_memTo hin
     have hk0 : bs.getD 0 0 % 5 < 5 := Nat.mod_lt _ (by decide)
     obtain ⟨q, hq⟩ : ∃ q, q = bs.getD 0 0 % 5 := ⟨_, rfl⟩
     have hkd : decKd bs = (q : Int) + 1 := by unfold decKd; rw [hq]
     have hkn : known (decKd bs) = true := by
      rw [hkd]
      have : q = 0 ∨ q = 1 ∨ q = 2 ∨ q = 3 ∨ q = 4 := by omega
      rcases this with rfl | rfl | rfl | rfl | rfl <;> decide
     have hrc : (n : Int) ≤ recv n k (decKd bs) := by unfold recv; split <;> omega
     have b2 := bI_range bs 2 h256
     have b3 := bI_range bs 3 h256
     have b4 := bI_range bs 4 h256
     have b5 := bI_range bs 5 h256
     have b6 := bI_range bs 6 h256
     have t2 := Int.emod_lt_of_pos (bI bs 2) (show 0 < recv n k (decKd bs) by omega)
     have t3 := Int.emod_nonneg (bI bs 2) (show recv n k (decKd bs) ≠ 0 by omega)
     unfold vLi decLi
     rw [← hlv]
     simp only []
     rw [hkn, if_neg (by decide), inR_yes (by omega) (by omega), inR_yes t3 (by omega), inR_yes (by omega) (by omega), inR_yes (by omega) (by omega), inR_yes (by omega) (by omega), inR_yes b6.1 (by omega)]
     simp [hl.2]
   · rw [hm] at h; simp at h
 · rw [if_neg h7] at h; simp at h
set_option maxRecDepth 100000 in
set_option maxHeartbeats 20000000 in
theorem lawDecode51 (N Wt C : Nat) (x : Sl Dr) (s cb : Nat) (Ab : Option Addr) (bs : List Nat) (w : World) (he : EnvP w) (ht : TbE w) (hN : N < 256) (hW : Wt < 256) (hC : C < 256) (hs : s < 65536) (hx : Rd w 6 x.a x.l.length (x.l.flatMap drC)) (hok : ∀ d ∈ x.l, d.ok w) (hr : Rd w 1 Ab bs.length (BY bs)) (h256 : ∀ x ∈ bs, x < 256) (hmx : bs.length ≤ 9223372036854775807) :
    Calls Tryz.prog 5 #[.agg #[.int .u8 (N : Int), .int .u8 (Wt : Int), .int .u8 (C : Int), .slice x.a x.l.length x.c], .int .u16 (s : Int), .slice Ab bs.length cb] w (RetBool true w) := by
 obtain ⟨n, hn⟩ : ∃ n, n = 3 + N % 3 := ⟨_, rfl⟩
 obtain ⟨k, hk⟩ : ∃ k, k = C % 3 := ⟨_, rfl⟩
 have HAw : Hid (∀ W, Below w.heap.size w W → Calls Tryz.prog 7 #[] W (RetBool true W)) := hD (fun W hb => awake51 W (he.below hb) (ht.below hb).tz)
 have H0 := hD (bx_new w [.int .u8 (N : Int), .int .u8 (Wt : Int), .int .u8 (C : Int), .slice x.a x.l.length x.c] 24)
 by_cases h20 : bs.length ≤ 20
 · have HSe : Hid (∀ W, Below w.heap.size w W → Calls Tryz.prog 8 #[.agg #[.int .u8 (N : Int), .int .u8 (Wt : Int), .int .u8 (C : Int), .slice x.a x.l.length x.c]] W (RetDep n k W)) := hD (fun W hb => hn ▸ hk ▸ setup_any N Wt C x W hN hW hC (hx.below hb) (fun d h => (hok d h).below hb))
   obtain ⟨l, hl⟩ : ∃ l, l = decLie n k s bs := ⟨_, rfl⟩
   obtain ⟨ev, hev⟩ : ∃ ev, ev = decErr n s bs := ⟨_, rfl⟩
   have HClo : Hid (∀ W, Below w.heap.size w W → Calls Tryz.prog 15 #[.slice Ab bs.length cb] W (RetBys bs W)) := hD (fun W hb => cloneB Ab cb bs W (hr.below hb) (by omega))
   have HDc : Hid (∀ (A B D E F : Option Addr) (u : Int) (c n2 c2 n3 c3 n4 c4 c5 : Nat) (A9 : Option Addr) (c9 : Nat) W, Below w.heap.size w W → Rd W 1 A9 bs.length (BY bs) → Calls Tryz.prog 14 #[.agg #[.slice A n c, .slice B n2 c2, .int .u16 u, .slice D n3 c3, .slice E n4 c4, .slice F k c5], .int .u16 (s : Int), .slice A9 bs.length c9] W (RetLie l ev W)) := hD (fun A B D E F u c n2 c2 n3 c3 n4 c4 c5 A9 c9 W hb hr9 => hl ▸ hev ▸ decP_any A B D E F u n k c n2 c2 n3 c3 n4 c4 c5 s c9 A9 bs W (ht.below hb) hr9 h256 hs (by omega) (by omega) (by omega))
   have HRf : Hid (∀ (A B D E F : Option Addr) (u : Int) (c n2 c2 n3 c3 n4 c4 c5 : Nat) W, Below w.heap.size w W → Calls Tryz.prog 16 #[.agg #[.slice A n c, .slice B n2 c2, .int .u16 u, .slice D n3 c3, .slice E n4 c4, .slice F k c5], .int .u16 (s : Int), .slice Ab bs.length cb] W (RetLie l ev W)) := hD (fun A B D E F u c n2 c2 n3 c3 n4 c4 c5 W hb => hl ▸ hev ▸ decR_any A B D E F u n k c n2 c2 n3 c3 n4 c4 c5 s cb Ab bs W (hr.below hb) h256 hs (by omega) (by omega) (by omega))
   have HV : Hid (ev = 0 → ∀ (A B D E F : Option Addr) (u : Int) (c n2 c2 n3 c3 n4 c4 c5 : Nat) W, Calls Tryz.prog 9 #[.agg #[.slice A n c, .slice B n2 c2, .int .u16 u, .slice D n3 c3, .slice E n4 c4, .slice F k c5], .int .u16 (s : Int), .agg #[.int .i64 l.kind, .int .i64 l.server, .int .i64 l.dst, .int .i64 l.view, .int .i64 l.slot, .int .i64 l.value, .int .i64 l.pick]] W (RetErr 0 W)) := hD (fun h0 A B D E F u c n2 c2 n3 c3 n4 c4 c5 W => by
    refine validOk_any A B D E F u n c n2 c2 n3 c3 n4 c4 k c5 l.kind l.server l.dst l.view l.slot l.value l.pick s W hs (by omega) (by omega) ?_
    rw [show (⟨l.kind, l.server, l.dst, l.view, l.slot, l.value, l.pick⟩ : Li) = l from rfl, hl]
    exact valid_dec n k s bs h256 (by omega) (by rw [← hev]; exact h0))
   have hb20 : ¬ (20 : Int) < (bs.length : Int) := by omega
   have hb21 : decide ((20 : Int) < (bs.length : Int)) = false := decide_eq_false hb20
   obtain ⟨bl, hbl⟩ : ∃ bl, bl = bs.length := ⟨_, rfl⟩
   clear he ht hN hW hC hs hx hok hr h256 hmx hn hk hl hev h20
   go_enter Tryz.func5, Tryz.ntmps5
   go_wp2_with fail
   refine (HAw.out _ (bx_low H0.out)).mono ?_
   rintro e w1 ⟨rfl, hb⟩
   have HX := hD (bx_on H0.out hb)
   clear hb
   have x0 := bx_cell HX.out 0 _ rfl
   have x1 := bx_cell HX.out 1 _ rfl
   have x2 := bx_cell HX.out 2 _ rfl
   have x3 := bx_cell HX.out 3 _ rfl
   have lx := bx_size HX.out
   go_wp2_with fail
   refine (HSe.out _ (bx_low HX.out)).mono ?_
   rintro e w3 ⟨⟨A, B, D, E, F, u, c, n2, c2, n3, c3, n4, c4, c5, rfl⟩, hb⟩
   have HD := hD (Vz.new w3 [.slice A n c, .slice B n2 c2, .int .u16 u, .slice D n3 c3, .slice E n4 c4, .slice F k c5] 36)
   have HX := hD (bx_on (bx_on HX.out hb) (below_new w3 (.cells #[.slice A n c, .slice B n2 c2, .int .u16 u, .slice D n3 c3, .slice E n4 c4, .slice F k c5] 36)))
   clear hb x0 x1 x2 x3 lx
   have HDec := hD (HDc.out A B D E F u c n2 c2 n3 c3 n4 c4 c5)
   have HRef := hD (HRf.out A B D E F u c n2 c2 n3 c3 n4 c4 c5)
   go_upto_region 4 with fail
   generalize w3.alloc (.cells #[.slice A n c, .slice B n2 c2, .int .u16 u, .slice D n3 c3, .slice E n4 c4, .slice F k c5] 36) = w4 at HD HX ⊢
   generalize w3.heap.size = gd at HD ⊢
   refine wp_region_noPanic ?_
   have HX : Hid (Bx w [.int .u8 (N : Int), .int .u8 (Wt : Int), .int .u8 (C : Int), .slice x.a x.l.length x.c] 24 w4.drew) := hD (bx_on HX.out (Below.refl _ _).drew)
   have HD : Hid (Vz w4.drew gd [.slice A n c, .slice B n2 c2, .int .u16 u, .slice D n3 c3, .slice E n4 c4, .slice F k c5]) := hD (HD.out.below (Below.refl _ _).drew)
   generalize hv : w4.drew = v0 at HX HD
   have hS0 : World.cell? v0 ⟨gd, 0, none⟩ = some (.slice A n c) ∧ World.cell? v0 ⟨gd, 1, none⟩ = some (.slice B n2 c2) ∧ World.cell? v0 ⟨gd, 2, none⟩ = some (.int .u16 u) ∧ World.cell? v0 ⟨gd, 3, none⟩ = some (.slice D n3 c3) ∧ World.cell? v0 ⟨gd, 4, none⟩ = some (.slice E n4 c4) ∧ World.cell? v0 ⟨gd, 5, none⟩ = some (.slice F k c5) := ⟨HD.out.cells 0 _ rfl, HD.out.cells 1 _ rfl, HD.out.cells 2 _ rfl, HD.out.cells 3 _ rfl, HD.out.cells 4 _ rfl, HD.out.cells 5 _ rfl⟩
   refine wp_region_held_drew (S := fun W => World.cell? W ⟨gd, 0, none⟩ = some (.slice A n c) ∧ World.cell? W ⟨gd, 1, none⟩ = some (.slice B n2 c2) ∧ World.cell? W ⟨gd, 2, none⟩ = some (.int .u16 u) ∧ World.cell? W ⟨gd, 3, none⟩ = some (.slice D n3 c3) ∧ World.cell? W ⟨gd, 4, none⟩ = some (.slice E n4 c4) ∧ World.cell? W ⟨gd, 5, none⟩ = some (.slice F k c5)) (by kernel_rfl) (by rw [hv]; exact hS0) (fun hHeld => ?_)
   rw [hv] at hHeld ⊢
   clear hv
   refine takes [0,1,2] ?_
   refine wpAnyH_ready (rs := [3, 8]) (by kernel_rfl) (by simp) ?_
   refine AllReadyH.cons (o := _) rfl (fun K hK => ?_) (AllReadyH.cons (o := _) rfl (fun K hK => ?_) AllReadyH.nil)
   · go_simp
     go_at_call 15
     refine (HClo.out _ (bx_low HX.out)).mono ?_
     rintro e v1 ⟨A9, c9, rfl, hb9, hs⟩
     have HB := hD hb9
     have HX := hD (bx_on HX.out hs)
     have HD := hD (HD.out.below hs)
     clear hs hb9
     go_wp2_with fail
     have hS1 : World.cell? v1 ⟨gd, 0, none⟩ = some (.slice A n c) ∧ World.cell? v1 ⟨gd, 1, none⟩ = some (.slice B n2 c2) ∧ World.cell? v1 ⟨gd, 2, none⟩ = some (.int .u16 u) ∧ World.cell? v1 ⟨gd, 3, none⟩ = some (.slice D n3 c3) ∧ World.cell? v1 ⟨gd, 4, none⟩ = some (.slice E n4 c4) ∧ World.cell? v1 ⟨gd, 5, none⟩ = some (.slice F k c5) := ⟨HD.out.cells 0 _ rfl, HD.out.cells 1 _ rfl, HD.out.cells 2 _ rfl, HD.out.cells 3 _ rfl, HD.out.cells 4 _ rfl, HD.out.cells 5 _ rfl⟩
     refine hK.out _ _ hS1 (fun hHeld => ?_)
     clear hK K
     try simp only [Act.put,qk1,qk2,qk3,qk4,qk5,qk6]
     refine wpAnyH_ready (rs := [4, 8]) (by kernel_rfl) (by simp) ?_
     refine AllReadyH.cons (o := _) rfl (fun K hK => ?_) (AllReadyH.cons (o := _) rfl (fun K hK => ?_) AllReadyH.nil)
     · go_simp
       go_at_call 14
       refine (HDec.out A9 c9 _ (bx_low HX.out) HB.out).mono ?_
       rintro e v2 ⟨rfl, hs⟩
       have HX := hD (bx_on HX.out hs)
       have HD := hD (HD.out.below hs)
       clear hs
       go_wp2_with fail
       have hS2 : World.cell? v2 ⟨gd, 0, none⟩ = some (.slice A n c) ∧ World.cell? v2 ⟨gd, 1, none⟩ = some (.slice B n2 c2) ∧ World.cell? v2 ⟨gd, 2, none⟩ = some (.int .u16 u) ∧ World.cell? v2 ⟨gd, 3, none⟩ = some (.slice D n3 c3) ∧ World.cell? v2 ⟨gd, 4, none⟩ = some (.slice E n4 c4) ∧ World.cell? v2 ⟨gd, 5, none⟩ = some (.slice F k c5) := ⟨HD.out.cells 0 _ rfl, HD.out.cells 1 _ rfl, HD.out.cells 2 _ rfl, HD.out.cells 3 _ rfl, HD.out.cells 4 _ rfl, HD.out.cells 5 _ rfl⟩
       refine hK.out _ _ hS2 (fun hHeld => ?_)
       clear hK K
       try simp only [Act.put,qk1,qk2,qk3,qk4,qk5,qk6]
       refine takes [5,6,7] ?_
       refine tkr 8 rfl (fun K hK => ?_)
       go_simp
       have HG : Hid (Vz (World.alloc v2 (.cells #[.int .i64 0, .int .i64 0, .int .i64 0, .int .i64 0, .int .i64 0, .int .i64 0, .int .i64 0] 28)) (World.heap v2).size [.int .i64 0, .int .i64 0, .int .i64 0, .int .i64 0, .int .i64 0, .int .i64 0, .int .i64 0]) := hD (Vz.new v2 [.int .i64 0, .int .i64 0, .int .i64 0, .int .i64 0, .int .i64 0, .int .i64 0, .int .i64 0] 28)
       have HGw : Hid (gd < (World.heap v2).size ∧ w.heap.size < (World.heap v2).size) := hD ⟨HD.out.lt, Nat.lt_of_lt_of_le (Nat.lt_succ_self _) (bx_size HX.out)⟩
       have hs := below_new v2 (.cells #[.int .i64 0, .int .i64 0, .int .i64 0, .int .i64 0, .int .i64 0, .int .i64 0, .int .i64 0] 28)
       have HX := hD (bx_on HX.out hs)
       have HD := hD (HD.out.below hs)
       clear hs
       generalize World.alloc v2 (.cells #[.int .i64 0, .int .i64 0, .int .i64 0, .int .i64 0, .int .i64 0, .int .i64 0, .int .i64 0] 28) = v3 at HG HX HD ⊢
       generalize (World.heap v2).size = g at HG HGw ⊢
       have hS3 : World.cell? v3 ⟨gd, 0, none⟩ = some (.slice A n c) ∧ World.cell? v3 ⟨gd, 1, none⟩ = some (.slice B n2 c2) ∧ World.cell? v3 ⟨gd, 2, none⟩ = some (.int .u16 u) ∧ World.cell? v3 ⟨gd, 3, none⟩ = some (.slice D n3 c3) ∧ World.cell? v3 ⟨gd, 4, none⟩ = some (.slice E n4 c4) ∧ World.cell? v3 ⟨gd, 5, none⟩ = some (.slice F k c5) := ⟨HD.out.cells 0 _ rfl, HD.out.cells 1 _ rfl, HD.out.cells 2 _ rfl, HD.out.cells 3 _ rfl, HD.out.cells 4 _ rfl, HD.out.cells 5 _ rfl⟩
       refine hK.out _ _ hS3 (fun hHeld => ?_)
       clear hK K
       try simp only [Act.put,qk1,qk2,qk3,qk4,qk5,qk6]
       have hge : w.heap.size + 1 ≤ g := by have := HGw.out; omega
       have hneD : some g ≠ some gd := by have := HGw.out; simp; omega
       have z0 := HG.out.cells 0 _ rfl
       have f0 := HG.out.free 0 (by simp)
       have z1 := HG.out.cells 1 _ rfl
       have f1 := HG.out.free 1 (by simp)
       have z2 := HG.out.cells 2 _ rfl
       have f2 := HG.out.free 2 (by simp)
       have z3 := HG.out.cells 3 _ rfl
       have f3 := HG.out.free 3 (by simp)
       have z4 := HG.out.cells 4 _ rfl
       have f4 := HG.out.free 4 (by simp)
       have z5 := HG.out.cells 5 _ rfl
       have f5 := HG.out.free 5 (by simp)
       have z6 := HG.out.cells 6 _ rfl
       have f6 := HG.out.free 6 (by simp)
       have lg := HG.out.lt
       refine tkr 9 rfl (fun K hK => ?_)
       go_simp
       have HX : Hid (Bx w [.int .u8 (N : Int), .int .u8 (Wt : Int), .int .u8 (C : Int), .slice x.a x.l.length x.c] 24 (World.setCell (World.setCell (World.setCell (World.setCell (World.setCell (World.setCell (World.setCell v3 ⟨g, 0, none⟩ (.int .i64 l.kind)) ⟨g, 1, none⟩ (.int .i64 l.server)) ⟨g, 2, none⟩ (.int .i64 l.dst)) ⟨g, 3, none⟩ (.int .i64 l.view)) ⟨g, 4, none⟩ (.int .i64 l.slot)) ⟨g, 5, none⟩ (.int .i64 l.value)) ⟨g, 6, none⟩ (.int .i64 l.pick))) := hD ((((((((HX.out.setCell (p := ⟨g, 0, none⟩) hge (.int .i64 l.kind)).setCell (p := ⟨g, 1, none⟩) hge (.int .i64 l.server)).setCell (p := ⟨g, 2, none⟩) hge (.int .i64 l.dst)).setCell (p := ⟨g, 3, none⟩) hge (.int .i64 l.view)).setCell (p := ⟨g, 4, none⟩) hge (.int .i64 l.slot)).setCell (p := ⟨g, 5, none⟩) hge (.int .i64 l.value)).setCell (p := ⟨g, 6, none⟩) hge (.int .i64 l.pick)))
       have HD := hD ((((((((HD.out.grown (grown_set _ ⟨g, 0, none⟩ (.int .i64 l.kind)) hneD).grown (grown_set _ ⟨g, 1, none⟩ (.int .i64 l.server)) hneD).grown (grown_set _ ⟨g, 2, none⟩ (.int .i64 l.dst)) hneD).grown (grown_set _ ⟨g, 3, none⟩ (.int .i64 l.view)) hneD).grown (grown_set _ ⟨g, 4, none⟩ (.int .i64 l.slot)) hneD).grown (grown_set _ ⟨g, 5, none⟩ (.int .i64 l.value)) hneD).grown (grown_set _ ⟨g, 6, none⟩ (.int .i64 l.pick)) hneD))
       have HG := hD (((((((((HG.out.set 0 (.int .i64 l.kind)).set 1 (.int .i64 l.server)).set 2 (.int .i64 l.dst)).set 3 (.int .i64 l.view)).set 4 (.int .i64 l.slot)).set 5 (.int .i64 l.value)).set 6 (.int .i64 l.pick))).eq (cs' := [.int .i64 l.kind, .int .i64 l.server, .int .i64 l.dst, .int .i64 l.view, .int .i64 l.slot, .int .i64 l.value, .int .i64 l.pick]) rfl)
       clear z0 f0 z1 f1 z2 f2 z3 f3 z4 f4 z5 f5 z6 f6 lg
       generalize (World.setCell (World.setCell (World.setCell (World.setCell (World.setCell (World.setCell (World.setCell v3 ⟨g, 0, none⟩ (.int .i64 l.kind)) ⟨g, 1, none⟩ (.int .i64 l.server)) ⟨g, 2, none⟩ (.int .i64 l.dst)) ⟨g, 3, none⟩ (.int .i64 l.view)) ⟨g, 4, none⟩ (.int .i64 l.slot)) ⟨g, 5, none⟩ (.int .i64 l.value)) ⟨g, 6, none⟩ (.int .i64 l.pick)) = v4 at HX HD HG ⊢
       have hS4 : World.cell? v4 ⟨gd, 0, none⟩ = some (.slice A n c) ∧ World.cell? v4 ⟨gd, 1, none⟩ = some (.slice B n2 c2) ∧ World.cell? v4 ⟨gd, 2, none⟩ = some (.int .u16 u) ∧ World.cell? v4 ⟨gd, 3, none⟩ = some (.slice D n3 c3) ∧ World.cell? v4 ⟨gd, 4, none⟩ = some (.slice E n4 c4) ∧ World.cell? v4 ⟨gd, 5, none⟩ = some (.slice F k c5) := ⟨HD.out.cells 0 _ rfl, HD.out.cells 1 _ rfl, HD.out.cells 2 _ rfl, HD.out.cells 3 _ rfl, HD.out.cells 4 _ rfl, HD.out.cells 5 _ rfl⟩
       refine hK.out _ _ hS4 (fun hHeld => ?_)
       clear hK K
       try simp only [Act.put,qk1,qk2,qk3,qk4,qk5,qk6]
       refine takes [10] ?_
       refine wpAnyH_done (by kernel_rfl) ?_ _
       refine NoPanic.normal ?_
       have d0 := HD.out.cells 0 _ rfl
       have d1 := HD.out.cells 1 _ rfl
       have d2 := HD.out.cells 2 _ rfl
       have d3 := HD.out.cells 3 _ rfl
       have d4 := HD.out.cells 4 _ rfl
       have d5 := HD.out.cells 5 _ rfl
       have ld := HD.out.lt
       go_wp2_with fail
       refine (HRef.out _ (bx_low HX.out)).mono ?_
       rintro e v20 ⟨rfl, hs⟩
       clear d0 d1 d2 d3 d4 d5 ld
       have hs2 := bon hs (below_new v20 (.cells #[.int .i64 l.kind, .int .i64 l.server, .int .i64 l.dst, .int .i64 l.view, .int .i64 l.slot, .int .i64 l.value, .int .i64 l.pick] 28))
       have HX := hD (bx_on HX.out hs2)
       have HD := hD (HD.out.below hs2)
       have HG := hD (HG.out.below hs2)
       have HH := hD (Vz.new v20 [.int .i64 l.kind, .int .i64 l.server, .int .i64 l.dst, .int .i64 l.view, .int .i64 l.slot, .int .i64 l.value, .int .i64 l.pick] 28)
       clear hs hs2
       go_upto_region 6 with fail
       generalize v20.alloc (.cells #[.int .i64 l.kind, .int .i64 l.server, .int .i64 l.dst, .int .i64 l.view, .int .i64 l.slot, .int .i64 l.value, .int .i64 l.pick] 28) = v21 at HX HD HG HH ⊢
       generalize v20.heap.size = gh at HH ⊢
       have z0 := HG.out.cells 0 _ rfl
       have y0 := HH.out.cells 0 _ rfl
       have z1 := HG.out.cells 1 _ rfl
       have y1 := HH.out.cells 1 _ rfl
       have z2 := HG.out.cells 2 _ rfl
       have y2 := HH.out.cells 2 _ rfl
       have z3 := HG.out.cells 3 _ rfl
       have y3 := HH.out.cells 3 _ rfl
       have z4 := HG.out.cells 4 _ rfl
       have y4 := HH.out.cells 4 _ rfl
       have z5 := HG.out.cells 5 _ rfl
       have y5 := HH.out.cells 5 _ rfl
       have z6 := HG.out.cells 6 _ rfl
       have y6 := HH.out.cells 6 _ rfl
       have d0 := HD.out.cells 0 _ rfl
       have d1 := HD.out.cells 1 _ rfl
       have d2 := HD.out.cells 2 _ rfl
       have d3 := HD.out.cells 3 _ rfl
       have d4 := HD.out.cells 4 _ rfl
       have d5 := HD.out.cells 5 _ rfl
       have lg := HG.out.lt
       have lh := HH.out.lt
       have ld := HD.out.lt
       by_cases h0 : ev = 0
       · have q0 : (ev != 0) = false := by simp [h0]
         have q1 : (ev == 0) = true := by simp [h0]
         have HVP := hD (HV.out h0 A B D E F u c n2 c2 n3 c3 n4 c4 c5)
         clear h0
         go_wp2_with fail
         refine (HVP.out _).mono ?_
         rintro e v22 ⟨rfl, hs⟩
         have HL := hD (bx_low (bx_on HX.out hs))
         clear z0 y0 z1 y1 z2 y2 z3 y3 z4 y4 z5 y5 z6 y6 d0 d1 d2 d3 d4 d5 lg lh ld hs
         go_wp2_with fail
         go_ret
         exact ret_bl (by simp) HL.out
       · have q0 : (ev != 0) = true := by simp [h0]
         have q1 : (ev == 0) = false := by simp [h0]
         clear h0
         have HL := hD (bx_low HX.out)
         go_wp2_with fail
         go_ret
         exact ret_bl (by simp) HL.out
     · go_simp
       have HG : Hid (Vz (World.alloc v1 (.cells #[.int .i64 0, .int .i64 0, .int .i64 0, .int .i64 0, .int .i64 0, .int .i64 0, .int .i64 0] 28)) (World.heap v1).size [.int .i64 0, .int .i64 0, .int .i64 0, .int .i64 0, .int .i64 0, .int .i64 0, .int .i64 0]) := hD (Vz.new v1 [.int .i64 0, .int .i64 0, .int .i64 0, .int .i64 0, .int .i64 0, .int .i64 0, .int .i64 0] 28)
       have HGw : Hid (gd < (World.heap v1).size ∧ w.heap.size < (World.heap v1).size) := hD ⟨HD.out.lt, Nat.lt_of_lt_of_le (Nat.lt_succ_self _) (bx_size HX.out)⟩
       have hs := below_new v1 (.cells #[.int .i64 0, .int .i64 0, .int .i64 0, .int .i64 0, .int .i64 0, .int .i64 0, .int .i64 0] 28)
       have HX := hD (bx_on HX.out hs)
       have HD := hD (HD.out.below hs)
       have HB := hD (Rd.below HB.out hs)
       clear hs
       generalize World.alloc v1 (.cells #[.int .i64 0, .int .i64 0, .int .i64 0, .int .i64 0, .int .i64 0, .int .i64 0, .int .i64 0] 28) = v2 at HG HX HD HB ⊢
       generalize (World.heap v1).size = g at HG HGw ⊢
       have hS2 : World.cell? v2 ⟨gd, 0, none⟩ = some (.slice A n c) ∧ World.cell? v2 ⟨gd, 1, none⟩ = some (.slice B n2 c2) ∧ World.cell? v2 ⟨gd, 2, none⟩ = some (.int .u16 u) ∧ World.cell? v2 ⟨gd, 3, none⟩ = some (.slice D n3 c3) ∧ World.cell? v2 ⟨gd, 4, none⟩ = some (.slice E n4 c4) ∧ World.cell? v2 ⟨gd, 5, none⟩ = some (.slice F k c5) := ⟨HD.out.cells 0 _ rfl, HD.out.cells 1 _ rfl, HD.out.cells 2 _ rfl, HD.out.cells 3 _ rfl, HD.out.cells 4 _ rfl, HD.out.cells 5 _ rfl⟩
       refine hK.out _ _ hS2 (fun hHeld => ?_)
       clear hK K
       try simp only [Act.put,qk1,qk2,qk3,qk4,qk5,qk6]
       refine tkr 4 rfl (fun K hK => ?_)
       go_simp
       go_at_call 14
       refine (HDec.out A9 c9 _ (bx_low HX.out) HB.out).mono ?_
       rintro e v3 ⟨rfl, hs⟩
       have HX := hD (bx_on HX.out hs)
       have HD := hD (HD.out.below hs)
       have HG := hD (HG.out.below hs)
       clear hs
       go_wp2_with fail
       have hS3 : World.cell? v3 ⟨gd, 0, none⟩ = some (.slice A n c) ∧ World.cell? v3 ⟨gd, 1, none⟩ = some (.slice B n2 c2) ∧ World.cell? v3 ⟨gd, 2, none⟩ = some (.int .u16 u) ∧ World.cell? v3 ⟨gd, 3, none⟩ = some (.slice D n3 c3) ∧ World.cell? v3 ⟨gd, 4, none⟩ = some (.slice E n4 c4) ∧ World.cell? v3 ⟨gd, 5, none⟩ = some (.slice F k c5) := ⟨HD.out.cells 0 _ rfl, HD.out.cells 1 _ rfl, HD.out.cells 2 _ rfl, HD.out.cells 3 _ rfl, HD.out.cells 4 _ rfl, HD.out.cells 5 _ rfl⟩
       refine hK.out _ _ hS3 (fun hHeld => ?_)
       clear hK K
       try simp only [Act.put,qk1,qk2,qk3,qk4,qk5,qk6]
       have hge : w.heap.size + 1 ≤ g := by have := HGw.out; omega
       have hneD : some g ≠ some gd := by have := HGw.out; simp; omega
       refine takes [5,6,7] ?_
       have z0 := HG.out.cells 0 _ rfl
       have f0 := HG.out.free 0 (by simp)
       have z1 := HG.out.cells 1 _ rfl
       have f1 := HG.out.free 1 (by simp)
       have z2 := HG.out.cells 2 _ rfl
       have f2 := HG.out.free 2 (by simp)
       have z3 := HG.out.cells 3 _ rfl
       have f3 := HG.out.free 3 (by simp)
       have z4 := HG.out.cells 4 _ rfl
       have f4 := HG.out.free 4 (by simp)
       have z5 := HG.out.cells 5 _ rfl
       have f5 := HG.out.free 5 (by simp)
       have z6 := HG.out.cells 6 _ rfl
       have f6 := HG.out.free 6 (by simp)
       have lg := HG.out.lt
       refine tkr 9 rfl (fun K hK => ?_)
       go_simp
       have HX : Hid (Bx w [.int .u8 (N : Int), .int .u8 (Wt : Int), .int .u8 (C : Int), .slice x.a x.l.length x.c] 24 (World.setCell (World.setCell (World.setCell (World.setCell (World.setCell (World.setCell (World.setCell v3 ⟨g, 0, none⟩ (.int .i64 l.kind)) ⟨g, 1, none⟩ (.int .i64 l.server)) ⟨g, 2, none⟩ (.int .i64 l.dst)) ⟨g, 3, none⟩ (.int .i64 l.view)) ⟨g, 4, none⟩ (.int .i64 l.slot)) ⟨g, 5, none⟩ (.int .i64 l.value)) ⟨g, 6, none⟩ (.int .i64 l.pick))) := hD ((((((((HX.out.setCell (p := ⟨g, 0, none⟩) hge (.int .i64 l.kind)).setCell (p := ⟨g, 1, none⟩) hge (.int .i64 l.server)).setCell (p := ⟨g, 2, none⟩) hge (.int .i64 l.dst)).setCell (p := ⟨g, 3, none⟩) hge (.int .i64 l.view)).setCell (p := ⟨g, 4, none⟩) hge (.int .i64 l.slot)).setCell (p := ⟨g, 5, none⟩) hge (.int .i64 l.value)).setCell (p := ⟨g, 6, none⟩) hge (.int .i64 l.pick)))
       have HD := hD ((((((((HD.out.grown (grown_set _ ⟨g, 0, none⟩ (.int .i64 l.kind)) hneD).grown (grown_set _ ⟨g, 1, none⟩ (.int .i64 l.server)) hneD).grown (grown_set _ ⟨g, 2, none⟩ (.int .i64 l.dst)) hneD).grown (grown_set _ ⟨g, 3, none⟩ (.int .i64 l.view)) hneD).grown (grown_set _ ⟨g, 4, none⟩ (.int .i64 l.slot)) hneD).grown (grown_set _ ⟨g, 5, none⟩ (.int .i64 l.value)) hneD).grown (grown_set _ ⟨g, 6, none⟩ (.int .i64 l.pick)) hneD))
       have HG := hD (((((((((HG.out.set 0 (.int .i64 l.kind)).set 1 (.int .i64 l.server)).set 2 (.int .i64 l.dst)).set 3 (.int .i64 l.view)).set 4 (.int .i64 l.slot)).set 5 (.int .i64 l.value)).set 6 (.int .i64 l.pick))).eq (cs' := [.int .i64 l.kind, .int .i64 l.server, .int .i64 l.dst, .int .i64 l.view, .int .i64 l.slot, .int .i64 l.value, .int .i64 l.pick]) rfl)
       clear z0 f0 z1 f1 z2 f2 z3 f3 z4 f4 z5 f5 z6 f6 lg
       generalize (World.setCell (World.setCell (World.setCell (World.setCell (World.setCell (World.setCell (World.setCell v3 ⟨g, 0, none⟩ (.int .i64 l.kind)) ⟨g, 1, none⟩ (.int .i64 l.server)) ⟨g, 2, none⟩ (.int .i64 l.dst)) ⟨g, 3, none⟩ (.int .i64 l.view)) ⟨g, 4, none⟩ (.int .i64 l.slot)) ⟨g, 5, none⟩ (.int .i64 l.value)) ⟨g, 6, none⟩ (.int .i64 l.pick)) = v4 at HX HD HG ⊢
       have hS4 : World.cell? v4 ⟨gd, 0, none⟩ = some (.slice A n c) ∧ World.cell? v4 ⟨gd, 1, none⟩ = some (.slice B n2 c2) ∧ World.cell? v4 ⟨gd, 2, none⟩ = some (.int .u16 u) ∧ World.cell? v4 ⟨gd, 3, none⟩ = some (.slice D n3 c3) ∧ World.cell? v4 ⟨gd, 4, none⟩ = some (.slice E n4 c4) ∧ World.cell? v4 ⟨gd, 5, none⟩ = some (.slice F k c5) := ⟨HD.out.cells 0 _ rfl, HD.out.cells 1 _ rfl, HD.out.cells 2 _ rfl, HD.out.cells 3 _ rfl, HD.out.cells 4 _ rfl, HD.out.cells 5 _ rfl⟩
       refine hK.out _ _ hS4 (fun hHeld => ?_)
       clear hK K
       try simp only [Act.put,qk1,qk2,qk3,qk4,qk5,qk6]
       refine takes [10] ?_
       refine wpAnyH_done (by kernel_rfl) ?_ _
       refine NoPanic.normal ?_
       have d0 := HD.out.cells 0 _ rfl
       have d1 := HD.out.cells 1 _ rfl
       have d2 := HD.out.cells 2 _ rfl
       have d3 := HD.out.cells 3 _ rfl
       have d4 := HD.out.cells 4 _ rfl
       have d5 := HD.out.cells 5 _ rfl
       have ld := HD.out.lt
       go_wp2_with fail
       refine (HRef.out _ (bx_low HX.out)).mono ?_
       rintro e v20 ⟨rfl, hs⟩
       clear d0 d1 d2 d3 d4 d5 ld
       have hs2 := bon hs (below_new v20 (.cells #[.int .i64 l.kind, .int .i64 l.server, .int .i64 l.dst, .int .i64 l.view, .int .i64 l.slot, .int .i64 l.value, .int .i64 l.pick] 28))
       have HX := hD (bx_on HX.out hs2)
       have HD := hD (HD.out.below hs2)
       have HG := hD (HG.out.below hs2)
       have HH := hD (Vz.new v20 [.int .i64 l.kind, .int .i64 l.server, .int .i64 l.dst, .int .i64 l.view, .int .i64 l.slot, .int .i64 l.value, .int .i64 l.pick] 28)
       clear hs hs2
       go_upto_region 6 with fail
       generalize v20.alloc (.cells #[.int .i64 l.kind, .int .i64 l.server, .int .i64 l.dst, .int .i64 l.view, .int .i64 l.slot, .int .i64 l.value, .int .i64 l.pick] 28) = v21 at HX HD HG HH ⊢
       generalize v20.heap.size = gh at HH ⊢
       have z0 := HG.out.cells 0 _ rfl
       have y0 := HH.out.cells 0 _ rfl
       have z1 := HG.out.cells 1 _ rfl
       have y1 := HH.out.cells 1 _ rfl
       have z2 := HG.out.cells 2 _ rfl
       have y2 := HH.out.cells 2 _ rfl
       have z3 := HG.out.cells 3 _ rfl
       have y3 := HH.out.cells 3 _ rfl
       have z4 := HG.out.cells 4 _ rfl
       have y4 := HH.out.cells 4 _ rfl
       have z5 := HG.out.cells 5 _ rfl
       have y5 := HH.out.cells 5 _ rfl
       have z6 := HG.out.cells 6 _ rfl
       have y6 := HH.out.cells 6 _ rfl
       have d0 := HD.out.cells 0 _ rfl
       have d1 := HD.out.cells 1 _ rfl
       have d2 := HD.out.cells 2 _ rfl
       have d3 := HD.out.cells 3 _ rfl
       have d4 := HD.out.cells 4 _ rfl
       have d5 := HD.out.cells 5 _ rfl
       have lg := HG.out.lt
       have lh := HH.out.lt
       have ld := HD.out.lt
       by_cases h0 : ev = 0
       · have q0 : (ev != 0) = false := by simp [h0]
         have q1 : (ev == 0) = true := by simp [h0]
         have HVP := hD (HV.out h0 A B D E F u c n2 c2 n3 c3 n4 c4 c5)
         clear h0
         go_wp2_with fail
         refine (HVP.out _).mono ?_
         rintro e v22 ⟨rfl, hs⟩
         have HL := hD (bx_low (bx_on HX.out hs))
         clear z0 y0 z1 y1 z2 y2 z3 y3 z4 y4 z5 y5 z6 y6 d0 d1 d2 d3 d4 d5 lg lh ld hs
         go_wp2_with fail
         go_ret
         exact ret_bl (by simp) HL.out
       · have q0 : (ev != 0) = true := by simp [h0]
         have q1 : (ev == 0) = false := by simp [h0]
         clear h0
         have HL := hD (bx_low HX.out)
         go_wp2_with fail
         go_ret
         exact ret_bl (by simp) HL.out
   · go_simp
     have HG : Hid (Vz (World.alloc v0 (.cells #[.int .i64 0, .int .i64 0, .int .i64 0, .int .i64 0, .int .i64 0, .int .i64 0, .int .i64 0] 28)) (World.heap v0).size [.int .i64 0, .int .i64 0, .int .i64 0, .int .i64 0, .int .i64 0, .int .i64 0, .int .i64 0]) := hD (Vz.new v0 [.int .i64 0, .int .i64 0, .int .i64 0, .int .i64 0, .int .i64 0, .int .i64 0, .int .i64 0] 28)
     have HGw : Hid (gd < (World.heap v0).size ∧ w.heap.size < (World.heap v0).size) := hD ⟨HD.out.lt, Nat.lt_of_lt_of_le (Nat.lt_succ_self _) (bx_size HX.out)⟩
     have hs := below_new v0 (.cells #[.int .i64 0, .int .i64 0, .int .i64 0, .int .i64 0, .int .i64 0, .int .i64 0, .int .i64 0] 28)
     have HX := hD (bx_on HX.out hs)
     have HD := hD (HD.out.below hs)
     clear hs
     generalize World.alloc v0 (.cells #[.int .i64 0, .int .i64 0, .int .i64 0, .int .i64 0, .int .i64 0, .int .i64 0, .int .i64 0] 28) = v1 at HG HX HD ⊢
     generalize (World.heap v0).size = g at HG HGw ⊢
     have hS1 : World.cell? v1 ⟨gd, 0, none⟩ = some (.slice A n c) ∧ World.cell? v1 ⟨gd, 1, none⟩ = some (.slice B n2 c2) ∧ World.cell? v1 ⟨gd, 2, none⟩ = some (.int .u16 u) ∧ World.cell? v1 ⟨gd, 3, none⟩ = some (.slice D n3 c3) ∧ World.cell? v1 ⟨gd, 4, none⟩ = some (.slice E n4 c4) ∧ World.cell? v1 ⟨gd, 5, none⟩ = some (.slice F k c5) := ⟨HD.out.cells 0 _ rfl, HD.out.cells 1 _ rfl, HD.out.cells 2 _ rfl, HD.out.cells 3 _ rfl, HD.out.cells 4 _ rfl, HD.out.cells 5 _ rfl⟩
     refine hK.out _ _ hS1 (fun hHeld => ?_)
     clear hK K
     try simp only [Act.put,qk1,qk2,qk3,qk4,qk5,qk6]
     refine tkr 3 rfl (fun K hK => ?_)
     go_simp
     go_at_call 15
     refine (HClo.out _ (bx_low HX.out)).mono ?_
     rintro e v2 ⟨A9, c9, rfl, hb9, hs⟩
     have HB := hD hb9
     have HX := hD (bx_on HX.out hs)
     have HD := hD (HD.out.below hs)
     have HG := hD (HG.out.below hs)
     clear hs hb9
     go_wp2_with fail
     have hS2 : World.cell? v2 ⟨gd, 0, none⟩ = some (.slice A n c) ∧ World.cell? v2 ⟨gd, 1, none⟩ = some (.slice B n2 c2) ∧ World.cell? v2 ⟨gd, 2, none⟩ = some (.int .u16 u) ∧ World.cell? v2 ⟨gd, 3, none⟩ = some (.slice D n3 c3) ∧ World.cell? v2 ⟨gd, 4, none⟩ = some (.slice E n4 c4) ∧ World.cell? v2 ⟨gd, 5, none⟩ = some (.slice F k c5) := ⟨HD.out.cells 0 _ rfl, HD.out.cells 1 _ rfl, HD.out.cells 2 _ rfl, HD.out.cells 3 _ rfl, HD.out.cells 4 _ rfl, HD.out.cells 5 _ rfl⟩
     refine hK.out _ _ hS2 (fun hHeld => ?_)
     clear hK K
     try simp only [Act.put,qk1,qk2,qk3,qk4,qk5,qk6]
     refine tkr 4 rfl (fun K hK => ?_)
     go_simp
     go_at_call 14
     refine (HDec.out A9 c9 _ (bx_low HX.out) HB.out).mono ?_
     rintro e v3 ⟨rfl, hs⟩
     have HX := hD (bx_on HX.out hs)
     have HD := hD (HD.out.below hs)
     have HG := hD (HG.out.below hs)
     clear hs
     go_wp2_with fail
     have hS3 : World.cell? v3 ⟨gd, 0, none⟩ = some (.slice A n c) ∧ World.cell? v3 ⟨gd, 1, none⟩ = some (.slice B n2 c2) ∧ World.cell? v3 ⟨gd, 2, none⟩ = some (.int .u16 u) ∧ World.cell? v3 ⟨gd, 3, none⟩ = some (.slice D n3 c3) ∧ World.cell? v3 ⟨gd, 4, none⟩ = some (.slice E n4 c4) ∧ World.cell? v3 ⟨gd, 5, none⟩ = some (.slice F k c5) := ⟨HD.out.cells 0 _ rfl, HD.out.cells 1 _ rfl, HD.out.cells 2 _ rfl, HD.out.cells 3 _ rfl, HD.out.cells 4 _ rfl, HD.out.cells 5 _ rfl⟩
     refine hK.out _ _ hS3 (fun hHeld => ?_)
     clear hK K
     try simp only [Act.put,qk1,qk2,qk3,qk4,qk5,qk6]
     have hge : w.heap.size + 1 ≤ g := by have := HGw.out; omega
     have hneD : some g ≠ some gd := by have := HGw.out; simp; omega
     refine takes [5,6,7] ?_
     have z0 := HG.out.cells 0 _ rfl
     have f0 := HG.out.free 0 (by simp)
     have z1 := HG.out.cells 1 _ rfl
     have f1 := HG.out.free 1 (by simp)
     have z2 := HG.out.cells 2 _ rfl
     have f2 := HG.out.free 2 (by simp)
     have z3 := HG.out.cells 3 _ rfl
     have f3 := HG.out.free 3 (by simp)
     have z4 := HG.out.cells 4 _ rfl
     have f4 := HG.out.free 4 (by simp)
     have z5 := HG.out.cells 5 _ rfl
     have f5 := HG.out.free 5 (by simp)
     have z6 := HG.out.cells 6 _ rfl
     have f6 := HG.out.free 6 (by simp)
     have lg := HG.out.lt
     refine tkr 9 rfl (fun K hK => ?_)
     go_simp
     have HX : Hid (Bx w [.int .u8 (N : Int), .int .u8 (Wt : Int), .int .u8 (C : Int), .slice x.a x.l.length x.c] 24 (World.setCell (World.setCell (World.setCell (World.setCell (World.setCell (World.setCell (World.setCell v3 ⟨g, 0, none⟩ (.int .i64 l.kind)) ⟨g, 1, none⟩ (.int .i64 l.server)) ⟨g, 2, none⟩ (.int .i64 l.dst)) ⟨g, 3, none⟩ (.int .i64 l.view)) ⟨g, 4, none⟩ (.int .i64 l.slot)) ⟨g, 5, none⟩ (.int .i64 l.value)) ⟨g, 6, none⟩ (.int .i64 l.pick))) := hD ((((((((HX.out.setCell (p := ⟨g, 0, none⟩) hge (.int .i64 l.kind)).setCell (p := ⟨g, 1, none⟩) hge (.int .i64 l.server)).setCell (p := ⟨g, 2, none⟩) hge (.int .i64 l.dst)).setCell (p := ⟨g, 3, none⟩) hge (.int .i64 l.view)).setCell (p := ⟨g, 4, none⟩) hge (.int .i64 l.slot)).setCell (p := ⟨g, 5, none⟩) hge (.int .i64 l.value)).setCell (p := ⟨g, 6, none⟩) hge (.int .i64 l.pick)))
     have HD := hD ((((((((HD.out.grown (grown_set _ ⟨g, 0, none⟩ (.int .i64 l.kind)) hneD).grown (grown_set _ ⟨g, 1, none⟩ (.int .i64 l.server)) hneD).grown (grown_set _ ⟨g, 2, none⟩ (.int .i64 l.dst)) hneD).grown (grown_set _ ⟨g, 3, none⟩ (.int .i64 l.view)) hneD).grown (grown_set _ ⟨g, 4, none⟩ (.int .i64 l.slot)) hneD).grown (grown_set _ ⟨g, 5, none⟩ (.int .i64 l.value)) hneD).grown (grown_set _ ⟨g, 6, none⟩ (.int .i64 l.pick)) hneD))
     have HG := hD (((((((((HG.out.set 0 (.int .i64 l.kind)).set 1 (.int .i64 l.server)).set 2 (.int .i64 l.dst)).set 3 (.int .i64 l.view)).set 4 (.int .i64 l.slot)).set 5 (.int .i64 l.value)).set 6 (.int .i64 l.pick))).eq (cs' := [.int .i64 l.kind, .int .i64 l.server, .int .i64 l.dst, .int .i64 l.view, .int .i64 l.slot, .int .i64 l.value, .int .i64 l.pick]) rfl)
     clear z0 f0 z1 f1 z2 f2 z3 f3 z4 f4 z5 f5 z6 f6 lg
     generalize (World.setCell (World.setCell (World.setCell (World.setCell (World.setCell (World.setCell (World.setCell v3 ⟨g, 0, none⟩ (.int .i64 l.kind)) ⟨g, 1, none⟩ (.int .i64 l.server)) ⟨g, 2, none⟩ (.int .i64 l.dst)) ⟨g, 3, none⟩ (.int .i64 l.view)) ⟨g, 4, none⟩ (.int .i64 l.slot)) ⟨g, 5, none⟩ (.int .i64 l.value)) ⟨g, 6, none⟩ (.int .i64 l.pick)) = v4 at HX HD HG ⊢
     have hS4 : World.cell? v4 ⟨gd, 0, none⟩ = some (.slice A n c) ∧ World.cell? v4 ⟨gd, 1, none⟩ = some (.slice B n2 c2) ∧ World.cell? v4 ⟨gd, 2, none⟩ = some (.int .u16 u) ∧ World.cell? v4 ⟨gd, 3, none⟩ = some (.slice D n3 c3) ∧ World.cell? v4 ⟨gd, 4, none⟩ = some (.slice E n4 c4) ∧ World.cell? v4 ⟨gd, 5, none⟩ = some (.slice F k c5) := ⟨HD.out.cells 0 _ rfl, HD.out.cells 1 _ rfl, HD.out.cells 2 _ rfl, HD.out.cells 3 _ rfl, HD.out.cells 4 _ rfl, HD.out.cells 5 _ rfl⟩
     refine hK.out _ _ hS4 (fun hHeld => ?_)
     clear hK K
     try simp only [Act.put,qk1,qk2,qk3,qk4,qk5,qk6]
     refine takes [10] ?_
     refine wpAnyH_done (by kernel_rfl) ?_ _
     refine NoPanic.normal ?_
     have d0 := HD.out.cells 0 _ rfl
     have d1 := HD.out.cells 1 _ rfl
     have d2 := HD.out.cells 2 _ rfl
     have d3 := HD.out.cells 3 _ rfl
     have d4 := HD.out.cells 4 _ rfl
     have d5 := HD.out.cells 5 _ rfl
     have ld := HD.out.lt
     go_wp2_with fail
     refine (HRef.out _ (bx_low HX.out)).mono ?_
     rintro e v20 ⟨rfl, hs⟩
     clear d0 d1 d2 d3 d4 d5 ld
     have hs2 := bon hs (below_new v20 (.cells #[.int .i64 l.kind, .int .i64 l.server, .int .i64 l.dst, .int .i64 l.view, .int .i64 l.slot, .int .i64 l.value, .int .i64 l.pick] 28))
     have HX := hD (bx_on HX.out hs2)
     have HD := hD (HD.out.below hs2)
     have HG := hD (HG.out.below hs2)
     have HH := hD (Vz.new v20 [.int .i64 l.kind, .int .i64 l.server, .int .i64 l.dst, .int .i64 l.view, .int .i64 l.slot, .int .i64 l.value, .int .i64 l.pick] 28)
     clear hs hs2
     go_upto_region 6 with fail
     generalize v20.alloc (.cells #[.int .i64 l.kind, .int .i64 l.server, .int .i64 l.dst, .int .i64 l.view, .int .i64 l.slot, .int .i64 l.value, .int .i64 l.pick] 28) = v21 at HX HD HG HH ⊢
     generalize v20.heap.size = gh at HH ⊢
     have z0 := HG.out.cells 0 _ rfl
     have y0 := HH.out.cells 0 _ rfl
     have z1 := HG.out.cells 1 _ rfl
     have y1 := HH.out.cells 1 _ rfl
     have z2 := HG.out.cells 2 _ rfl
     have y2 := HH.out.cells 2 _ rfl
     have z3 := HG.out.cells 3 _ rfl
     have y3 := HH.out.cells 3 _ rfl
     have z4 := HG.out.cells 4 _ rfl
     have y4 := HH.out.cells 4 _ rfl
     have z5 := HG.out.cells 5 _ rfl
     have y5 := HH.out.cells 5 _ rfl
     have z6 := HG.out.cells 6 _ rfl
     have y6 := HH.out.cells 6 _ rfl
     have d0 := HD.out.cells 0 _ rfl
     have d1 := HD.out.cells 1 _ rfl
     have d2 := HD.out.cells 2 _ rfl
     have d3 := HD.out.cells 3 _ rfl
     have d4 := HD.out.cells 4 _ rfl
     have d5 := HD.out.cells 5 _ rfl
     have lg := HG.out.lt
     have lh := HH.out.lt
     have ld := HD.out.lt
     by_cases h0 : ev = 0
     · have q0 : (ev != 0) = false := by simp [h0]
       have q1 : (ev == 0) = true := by simp [h0]
       have HVP := hD (HV.out h0 A B D E F u c n2 c2 n3 c3 n4 c4 c5)
       clear h0
       go_wp2_with fail
       refine (HVP.out _).mono ?_
       rintro e v22 ⟨rfl, hs⟩
       have HL := hD (bx_low (bx_on HX.out hs))
       clear z0 y0 z1 y1 z2 y2 z3 y3 z4 y4 z5 y5 z6 y6 d0 d1 d2 d3 d4 d5 lg lh ld hs
       go_wp2_with fail
       go_ret
       exact ret_bl (by simp) HL.out
     · have q0 : (ev != 0) = true := by simp [h0]
       have q1 : (ev == 0) = false := by simp [h0]
       clear h0
       have HL := hD (bx_low HX.out)
       go_wp2_with fail
       go_ret
       exact ret_bl (by simp) HL.out
 · have hb20 : (20 : Int) < (bs.length : Int) := by omega
   have hb21 : decide ((20 : Int) < (bs.length : Int)) = true := decide_eq_true hb20
   clear he ht hN hW hC hs hx hok hr h256 hmx hn hk h20
   go_enter Tryz.func5, Tryz.ntmps5
   go_wp2_with fail
   refine (HAw.out _ (bx_low H0.out)).mono ?_
   rintro e w1 ⟨rfl, hb⟩
   have HX := hD (bx_on H0.out hb)
   clear hb
   go_wp2_with fail
   refine (HAw.out _ (bx_low HX.out)).mono ?_
   rintro e w2 ⟨rfl, hb⟩
   have HX := hD (bx_low (bx_on HX.out hb))
   clear hb
   go_wp2_with fail
   go_ret
   exact ret_bl rfl HX.out
end Go.Proofs.YtikpcebhcnjkhaaGreatDoor
