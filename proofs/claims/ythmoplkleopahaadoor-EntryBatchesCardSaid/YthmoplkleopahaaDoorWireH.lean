/- The contract of wire.GetList. -/
import Derived.Test.YthmoplkleopahaaDoorWireG
namespace Go.Proofs.YthmoplkleopahaaDoor
open Go.RowKit

def RetL (l : List UInt8) (w : World) (e : Ending) (w' : World) : Prop := Below w.heap.size w w' ∧ match getList l with
  | some (xs, k) => ∃ A c, e = .returned (.tuple #[.slice A xs.length c, .int .i64 k, .int .i64 0]) ∧ Rd w' 1 A xs.length (strC xs) ∧ xs.length ≤ c
  | none => ∃ c : Int, c ≠ 0 ∧ e = .returned (.tuple #[.slice none 0 0, .int .i64 0, .int .i64 c])
theorem ret_l_none {l : List UInt8} {w w' : World} (h : getList l = none) (c : Int) (hc : c ≠ 0) (hb : Below w.heap.size w w') : RetL l w (.returned (.tuple #[.slice none 0 0, .int .i64 0, .int .i64 c])) w' := by
  refine ⟨hb, ?_⟩
  rw [h]
  exact ⟨c, hc, rfl⟩
theorem ret_l_some {l : List UInt8} {w w' : World} {xs : List (List UInt8)} {k n : Nat} {A : Option Addr} {c : Nat} (h : getList l = some (xs, k)) (hn : n = xs.length) (hr : Rd w' 1 A n (strC xs)) (hc : n ≤ c) (hb : Below w.heap.size w w') : RetL l w (.returned (.tuple #[.slice A n c, .int .i64 k, .int .i64 0])) w' := by
  refine ⟨hb, ?_⟩
  rw [h]
  subst hn
  exact ⟨A, c, rfl, hr, hc⟩
theorem gets_none (s : ByteArray) (w : World) (hs : s.size ≤ 70368744177664) (h : getStr s.data.toList = none) :
    Calls Tryd.prog 49 #[.string s] w fun e w' => w = w' ∧ ∃ c : Int, c ≠ 0 ∧ e = .returned (.tuple #[.string ⟨#[]⟩, .int .i64 0, .int .i64 c]) :=
  (getString_any s w hs).mono fun _ _ ⟨hw, he⟩ => by rw [h] at he; exact ⟨hw, he⟩
theorem gets_some (s : ByteArray) (w : World) (hs : s.size ≤ 70368744177664) (x : List UInt8) (k : Nat) (h : getStr s.data.toList = some (x, k)) :
    Calls Tryd.prog 49 #[.string s] w fun e w' => w = w' ∧ e = .returned (.tuple #[.string ⟨x.toArray⟩, .int .i64 k, .int .i64 0]) :=
  (getString_any s w hs).mono fun _ _ ⟨hw, he⟩ => by rw [h] at he; exact ⟨hw, he⟩
theorem own_cap {w : World} {base e k n : Nat} {A : Option Addr} {c : Nat} {xs : List Value} (h : w.ownsRow base e k (.slice A n c) n xs) : n ≤ c := by
  rcases h.2 with ⟨h1, h2⟩ | ⟨g, cap, cur, hv, _, _, hrest⟩
  · omega
  · injection hv with _ _ h3
    subst h3
    omega
theorem ext_end (s : ByteArray) (k : Nat) (_h : k ≤ s.size) : (s.extract k s.size).data.toList = s.data.toList.drop k := by
  rw [Lib.extract_data, List.take_of_length_le (by simp)]
set_option maxRecDepth 100000 in
set_option maxHeartbeats 4000000 in
theorem listStr_any (s : ByteArray) (w : World) (hs : s.size ≤ 1099511627776) :
    Calls Tryd.prog 48 #[.string s, .func (.func 49) #[] #[]] w (RetL s.data.toList w) := by
  cases hv : getV s.data.toList with
  | none =>
    have HG := Lib.hid (get_none s w (by omega) hv)
    have HR : Hid (getList s.data.toList = none) := Lib.hid (by unfold getList getAll; rw [hv])
    clear hv
    go_enter Tryd.func48, Tryd.ntmps48
    go_wp2_with fail
    refine HG.out.mono ?_
    rintro e w' ⟨rfl, c, hc, rfl⟩
    have hc1 : (c == 0) = false := by simpa using hc
    have hc2 : (c != 0) = true := by simpa using hc
    go_wp2_with fail
    go_ret3
    exact ret_l_none HR.out c hc (Below.refl _ _)
  | some x =>
    obtain ⟨n, k⟩ := x
    have HG := Lib.hid (get_some s w (by omega) n k hv)
    have hle := getV_le hv
    rw [len_data] at hle
    have hn := getV_lt hv
    obtain ⟨k0, k1, k2⟩ := hle
    have HL : Hid (getList s.data.toList = match getMany getStr n (s.data.toList.drop k) with
      | none => none
      | some (xs, m) => some (xs, k + m)) := Lib.hid (by unfold getList getAll; rw [hv]; simp only []; cases getMany getStr n (List.drop k s.data.toList) <;> rfl)
    obtain ⟨i0, hi, hz0, hz1, hz2⟩ := info_parts infoS
    have HI := Lib.hid hi
    have HZ0 := Lib.hid hz0
    have HZ1 := Lib.hid hz1
    have HZ2 := Lib.hid hz2
    clear hi hz0 hz1 hz2 hv
    go_enter Tryd.func48, Tryd.ntmps48
    go_wp2_with fail
    refine HG.out.mono ?_
    rintro e w' ⟨rfl, rfl⟩
    go_wp2_with fail
    go_loopw [8, 10, 24] (fun a o i wr => ∃ (j p : Nat) (xs : List (List UInt8)), i = .int .u64 j ∧ j ≤ n ∧ a = .int .i64 p ∧ p ≤ s.size ∧ j ≤ p ∧ xs.length = j ∧ wr.ownsRow w.heap.size 9 1 o j (strC xs) ∧ Below w.heap.size w wr ∧ w.heap.size ≤ wr.heap.size ∧
      getList s.data.toList = (match getMany getStr (n - j) (s.data.toList.drop p) with
      | none => none
      | some (ys, m) => some (xs ++ ys, p + m))) (fun _ _ i _ => n - (intOf i).toNat)
    case atStart => exact ⟨0, k, [], rfl, by omega, rfl, k2, by omega, rfl, World.ownsRow_nil _ _ _ _, Below.refl _ _, Nat.le_refl _, by rw [HL.out]; simp⟩
    case round =>
      obtain ⟨j, p, xs, rfl, hj, rfl, hp, hjp, hxs, hown, hb, hge, hL⟩ := hrel
      have HO := Lib.hid hown
      have HB := Lib.hid hb
      have HX := Lib.hid hxs
      have HE := Lib.hid hL
      clear hown hb hxs hL
      by_cases hlt : j < n
      · have hj' : (j : Int) < (n : Int) := by omega
        have hsl : (s.extract p s.size).size = s.size - p := by simp
        have HD := Lib.hid (ext_end s p hp)
        have hmany : n - j = (n - (j + 1)) + 1 := by omega
        cases hg : getStr (s.data.toList.drop p) with
        | none =>
          have HG1 := Lib.hid (gets_none (s.extract p s.size) wr (by omega) (by rw [HD.out]; exact hg))
          have HR : Hid (getList s.data.toList = none) := Lib.hid (by rw [HE.out, hmany, getMany, hg])
          clear hg hsl hmany
          go_wp2_with fail
          refine HG1.out.mono ?_
          rintro e w' ⟨rfl, c, hc, rfl⟩
          have hc1 : (c == 0) = false := by simpa using hc
          have hc2 : (c != 0) = true := by simpa using hc
          go_wp2_with fail
          go_ret3
          exact ret_l_none HR.out c hc HB.out
        | some x =>
          obtain ⟨x, q⟩ := x
          have HG1 := Lib.hid (gets_some (s.extract p s.size) wr (by omega) x q (by rw [HD.out]; exact hg))
          have hq := getStr_le hg
          simp only [List.length_drop, len_data] at hq
          obtain ⟨q0, q1, q2⟩ := hq
          have HR : Hid (getList s.data.toList = (match getMany getStr (n - (j + 1)) (s.data.toList.drop (p + q)) with
            | none => none
            | some (ys, m) => some (xs ++ [x] ++ ys, p + q + m))) := Lib.hid (by
              rw [HE.out, hmany, getMany, hg]
              simp only [List.drop_drop]
              cases getMany getStr (n - (j + 1)) (s.data.toList.drop (p + q)) with
              | none => rfl
              | some y => obtain ⟨ys, m⟩ := y; simp [Nat.add_assoc])
          clear hg hsl hmany
          go_wp2_with fail
          refine HG1.out.mono ?_
          rintro e w' ⟨rfl, rfl⟩
          go_wp2_with (at_builtin; refine wpList_append_own _ rfl _ _ 45 rfl w.heap.size 9 i0 _ 1 16 Tryd.underlying45 HI.out HZ0.out HZ1.out HZ2.out rfl (by decide) _ _ _ rfl (HO.out.alloc _) ⟨wr.heap.size, 0, none⟩ 1 1 [.string ⟨x.toArray⟩] rfl rfl (cell_new _ _ _ _ rfl) (by simp [Value.oneCell']) (by simp [maxLen]; omega) (by omega) (by simp; omega) ?_)
          intro v' w2 hown' hgrow _
          have HO2 := Lib.hid hown'
          have HG2 := Lib.hid hgrow
          clear hown' hgrow
          go_wp2_with fail
          go_roundw
          case rel =>
            refine ⟨j + 1, p + q, xs ++ [x], by go_num, by omega, by go_num, by omega, by omega, by simp [HX.out], ?_, below_grown (HB.out.alloc hge _) (by simp; omega) HG2.out (fun g hg => (HO.out.lt g hg).1), ?_, HR.out⟩
            · rw [strC_snoc]; exact HO2.out
            · have := HG2.out.size; simp at this; omega
          case measure => simp [intOf]; omega
      · have hjn : j = n := by omega
        have HR : Hid (getList s.data.toList = some (xs, p)) := Lib.hid (by rw [HE.out, hjn, Nat.sub_self, getMany]; simp)
        obtain ⟨A, c, hv⟩ := ownsRow_form HO.out
        subst hv
        have hj' : ¬ (j : Int) < (n : Int) := by omega
        clear hjn
        go_wp2_with fail
        go_ret3
        exact ret_l_some HR.out HX.out.symm (Rd.own HO.out) (own_cap HO.out) HB.out
theorem retL_none {P : Program} {f : FuncId} {args : Array Value} {l : List UInt8} {w : World} (h : Calls P f args w (RetL l w)) (hl : getList l = none) :
    Calls P f args w fun e w' => (∃ c : Int, c ≠ 0 ∧ e = .returned (.tuple #[.slice none 0 0, .int .i64 0, .int .i64 c])) ∧ Below w.heap.size w w' :=
  h.mono fun _ _ ⟨hw, he⟩ => by rw [hl] at he; exact ⟨he, hw⟩
theorem retL_some {P : Program} {f : FuncId} {args : Array Value} {l : List UInt8} {w : World} {xs : List (List UInt8)} {k : Nat} (h : Calls P f args w (RetL l w)) (hl : getList l = some (xs, k)) :
    Calls P f args w fun e w' => (∃ A c, e = .returned (.tuple #[.slice A xs.length c, .int .i64 k, .int .i64 0]) ∧ Rd w' 1 A xs.length (strC xs) ∧ xs.length ≤ c) ∧ Below w.heap.size w w' :=
  h.mono fun _ _ ⟨hw, he⟩ => by rw [hl] at he; exact ⟨he, hw⟩
set_option maxRecDepth 100000 in
set_option maxHeartbeats 2000000 in
theorem getList_any (s : ByteArray) (w : World) (hs : s.size ≤ 1099511627776) :
    Calls Tryd.prog 35 #[.string s] w (RetL s.data.toList w) := by
  have hL := listStr_any s w hs
  cases hl : getList s.data.toList with
  | none =>
    have HL := Lib.hid (retL_none hL hl)
    have HR := Lib.hid hl
    clear hl hL
    go_enter Tryd.func35, Tryd.ntmps35
    go_wp2_with fail
    refine HL.out.mono ?_
    rintro e w' ⟨⟨c, hc, rfl⟩, hb⟩
    go_wp2_with fail
    go_ret3
    exact ret_l_none HR.out c hc hb
  | some x =>
    obtain ⟨xs, k⟩ := x
    have HL := Lib.hid (retL_some hL hl)
    have HR := Lib.hid hl
    clear hl hL
    go_enter Tryd.func35, Tryd.ntmps35
    go_wp2_with fail
    refine HL.out.mono ?_
    rintro e w' ⟨⟨A, c, rfl, hr, hc⟩, hb⟩
    go_wp2_with fail
    go_ret3
    exact ret_l_some HR.out rfl hr hc hb
end Go.Proofs.YthmoplkleopahaaDoor
