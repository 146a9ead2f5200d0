/- The contracts of Lines. -/
import Derived.Test.YtdjpnncehlmehaaDoorK
namespace Go.Proofs.YtdjpnncehlmehaaDoor
open Go.RowKit

def splitNl : List UInt8 → List (List UInt8)
  | [] => [[]]
  | c :: r => if (c.toNat : Int) = 10 then [] :: splitNl r else match splitNl r with | [] => [[c]] | p :: ps => (c :: p) :: ps
def lines (l : List UInt8) : List (List UInt8) := if (splitNl l).getLast? = some [] then (splitNl l).dropLast else splitNl l
theorem splitNl_cut (l : List UInt8) (k : Nat) (hk : k < l.length) (hno : ∀ j, (h : j < l.length) → j < k → (l[j].toNat : Int) ≠ 10) (h : (l[k].toNat : Int) = 10) :
    splitNl l = l.take k :: splitNl (l.drop (k + 1)) := by
  induction l generalizing k with
  | nil => simp at hk
  | cons c r ih =>
    cases k with
    | zero => simp only [List.getElem_cons_zero] at h; simp [splitNl, h]
    | succ k =>
      have h0 := hno 0 (by simp) (by omega)
      simp only [List.getElem_cons_zero] at h0
      have := ih k (by simpa using hk) (fun j h h' => by have := hno (j + 1) (by simpa using h) (by omega); simpa using this) (by simpa using h)
      rw [splitNl, if_neg h0, this]
      simp
theorem splitNl_none (l : List UInt8) (hno : ∀ j, (h : j < l.length) → (l[j].toNat : Int) ≠ 10) : splitNl l = [l] := by
  induction l with
  | nil => rfl
  | cons c r ih =>
    have h0 := hno 0 (by simp)
    simp only [List.getElem_cons_zero] at h0
    have := ih (fun j h => by have := hno (j + 1) (by simpa using h); simpa using this)
    rw [splitNl, if_neg h0, this]
theorem splitNl_len (l : List UInt8) : 1 ≤ (splitNl l).length ∧ (splitNl l).length ≤ l.length + 1 := by
  induction l with
  | nil => simp [splitNl]
  | cons c r ih =>
    rw [splitNl]
    split
    · simp; omega
    · cases h : splitNl r with
      | nil => simp
      | cons p ps => rw [h] at ih; simp at ih ⊢; omega
theorem splitB_nl : ∀ (n : Nat) (s : ByteArray), s.size = n → (Lib.splitB ⟨#[10]⟩ 0 (Lib.countB s ⟨#[10]⟩) s).map (·.data.toList) = splitNl s.data.toList ∧ Lib.countB s ⟨#[10]⟩ + 1 = (splitNl s.data.toList).length := by
  intro n
  induction n using Nat.strongRecOn with
  | _ n ih =>
    intro s hn
    have hone : Lib.indexB s ⟨#[10]⟩ = Lib.indexByte s.data.toList 10 := by
      have := Lib.one s ⟨#[10]⟩ rfl
      rw [this]; rfl
    rcases idx_nl s.data.toList with ⟨hx, _⟩ | ⟨k, hx, hk, _⟩
    · rw [Lib.countB_miss _ _ (hone.trans hx), Lib.splitB_zero]
      have hno := Lib.indexByte_none hx
      have : splitNl s.data.toList = [s.data.toList] := splitNl_none _ (fun j h e => hno j (by
        rw [List.getElem?_eq_getElem h]; exact congrArg some ((u8_int _ 10 (by omega)).1 e)))
      rw [this]; simp
    · obtain ⟨h1, h2⟩ := Lib.indexByte_some hx
      rw [len_data] at hk
      have hc := Lib.countB_hit s ⟨#[10]⟩ k (by simp [ByteArray.size]) (hone.trans hx)
      rw [hc, Nat.add_comm, Lib.splitB_hit _ _ _ _ k (hone.trans hx)]
      have hsz : (ByteArray.mk #[10]).size = 1 := rfl
      rw [hsz]
      obtain ⟨i1, i2⟩ := ih (s.extract (k + 1) s.size).size (by simp; omega) _ rfl
      rw [tail_of] at i1 i2
      have hk' : k < s.data.toList.length := by simpa using hk
      have hcut := splitNl_cut s.data.toList k hk' (fun j h h' e => h2 j h' (by
          rw [List.getElem?_eq_getElem h]; exact congrArg some ((u8_int _ 10 (by omega)).1 e))) (by
        rw [List.getElem?_eq_getElem hk'] at h1
        exact (u8_int _ 10 (by omega)).2 (Option.some.inj h1))
      rw [hcut, List.map_cons, i1, ext0]
      refine ⟨by simp, by simp only [List.length_cons]; omega⟩

def RetStrs (l : List (List UInt8)) (w : World) (e : Ending) (w' : World) : Prop :=
  ∃ A c, e = .returned (.slice A l.length c) ∧ Rd w' 1 A l.length (strC l) ∧ Below w.heap.size w w'
theorem shaped_below {W W' : World} (h : W.ShapedOpen Tryd.prog) (hb : Below W.heap.size W W') : W'.ShapedOpen Tryd.prog :=
  h.keptBut (hb.frame (fun _ => False)) (fun _ h => h.elim)
theorem rd_alloc (w : World) (l : List (List UInt8)) (n : Nat) (hn : n ≤ l.length) : Rd (w.alloc (.cells (strC l).toArray 9)) 1 (some ⟨w.heap.size, 0, none⟩) n (strC (l.take n)) := by
  refine ⟨by simp [strC]; omega, fun _ => ⟨_, _, rfl, by simp, fun j u hu => ?_⟩⟩
  rw [← add_off]
  refine cell_new w (strC l) 9 _ rfl j u ?_
  simp only [strC, List.getElem?_map, List.getElem?_take] at hu ⊢
  split at hu
  · exact hu
  · simp at hu
theorem pieces_strC (s : ByteArray) : (Lib.splitB ⟨#[10]⟩ 0 (Lib.countB s ⟨#[10]⟩) s).map Value.string = strC (splitNl s.data.toList) := by
  have h := (splitB_nl _ s rfl).1
  rw [← h, strC, List.map_map]
  exact List.map_congr_left (fun b _ => rfl)
theorem last_at (ps : List (List UInt8)) (h : 1 ≤ ps.length) : ps.getLast? = some (ps[ps.length - 1]'(by omega)) := by
  rw [List.getLast?_eq_getElem?, List.getElem?_eq_getElem]
theorem ret_strs {l : List (List UInt8)} {w w' : World} {n : Nat} (A : Option Addr) (c : Nat) (xs : List (List UInt8)) (h : l = xs) (hn : n = xs.length) (hr : Rd w' 1 A n (strC xs)) (hb : Below w.heap.size w w') :
    RetStrs l w (.returned (.slice A n c)) w' := by
  subst h hn
  exact ⟨A, c, rfl, hr, hb⟩
set_option maxRecDepth 100000 in
set_option maxHeartbeats 2000000 in
theorem lexLines_any (s : ByteArray) (w : World) (hs : s.size ≤ 1000000) (hsh : w.ShapedOpen Tryd.prog) :
    Calls Tryd.prog 18 #[.string s] w (RetStrs (lines s.data.toList) w) := by
  have hsp := Tryd.strings_Split_shaped s ⟨#[10]⟩ w hsh (by omega) (by simp [ByteArray.size])
  rw [pieces_strC, (splitB_nl _ s rfl).2] at hsp
  have HS := Lib.hid hsp
  obtain ⟨n1, n2⟩ := splitNl_len s.data.toList
  rw [len_data] at n2
  have HLn : Hid (lines s.data.toList = if (splitNl s.data.toList).getLast? = some [] then (splitNl s.data.toList).dropLast else splitNl s.data.toList) := Lib.hid rfl
  clear hsp
  generalize splitNl s.data.toList = ps at *
  have HL := Lib.hid (last_at ps n1)
  have hcell : (w.alloc (.cells (strC ps).toArray 9)).cell? ⟨w.heap.size, ps.length - 1, none⟩ = some (.string ⟨(ps[ps.length - 1]'(by omega)).toArray⟩) := by
    have := cell_new w (strC ps) 9 w.heap.size rfl (ps.length - 1) (.string ⟨(ps[ps.length - 1]'(by omega)).toArray⟩) (by simp [strC])
    rw [add_off, Nat.zero_add] at this
    exact this
  have HR := Lib.hid (rd_alloc w ps)
  have hw : Below w.heap.size w (w.alloc (.cells (strC ps).toArray 9)) := (Below.refl _ _).alloc (Nat.le_refl _) _
  have HW := Lib.hid hw
  clear hw
  have hi : (0 : Int) ≤ (ps.length : Int) - 1 := by omega
  have hi2 : (ps.length : Int) - 1 < (ps.length : Int) := by omega
  have hi3 : ((ps.length : Int) - 1).toNat = ps.length - 1 := by omega
  by_cases hz : ps[ps.length - 1]'(by omega) = []
  · have HF : Hid (lines s.data.toList = ps.take (ps.length - 1)) := Lib.hid (by rw [HLn.out, HL.out, hz, if_pos rfl, List.dropLast_eq_take])
    have x1 : ((ps[ps.length - 1]'(by omega)) == []) = true := by rw [hz]; rfl
    rw [hz] at hcell
    clear hz
    generalize w.alloc (.cells (strC ps).toArray 9) = w1 at *
    go_enter Tryd.func18, Tryd.ntmps18
    go_wp2_with fail
    refine HS.out.mono ?_
    rintro e w2 ⟨rfl, rfl⟩
    go_wp2_with fail
    go_ret
    refine ret_strs _ _ (ps.take (ps.length - 1)) HF.out (by simp) (HR.out _ (by omega)) HW.out
  · have HF : Hid (lines s.data.toList = ps) := Lib.hid (by rw [HLn.out, HL.out, if_neg (by simpa using hz)])
    have x1 : ((ps[ps.length - 1]'(by omega)) == []) = false := by rw [beq_eq_false_iff_ne]; exact hz
    have x2 : ¬ (ps[ps.length - 1]'(by omega)) = [] := hz
    have HR2 := Lib.hid (HR.out ps.length (Nat.le_refl _))
    rw [List.take_length] at HR2
    clear hz
    generalize w.alloc (.cells (strC ps).toArray 9) = w1 at *
    go_enter Tryd.func18, Tryd.ntmps18
    go_wp2_with fail
    refine HS.out.mono ?_
    rintro e w2 ⟨rfl, rfl⟩
    go_wp2_with fail
    go_ret
    exact ret_strs _ _ ps HF.out rfl HR2.out HW.out
theorem info9 : (Tryd.prog.info? 9).map (fun i => (i.zero, i.size, i.bytes)) = some (some (.string ⟨#[]⟩), 1, 16) := by kernel_rfl
theorem strC_snoc (l : List (List UInt8)) (x : List UInt8) : strC (l ++ [x]) = strC l ++ [.string ⟨x.toArray⟩] := by simp [strC]
theorem ext_mid (s : ByteArray) (a b : Nat) : s.extract a b = ⟨((s.data.toList.drop a).take (b - a)).toArray⟩ := by
  apply ByteArray.ext
  apply Array.toList_inj.1
  rw [Lib.extract_data]
set_option maxRecDepth 100000 in
set_option maxHeartbeats 2000000 in
theorem refLines_any (s : ByteArray) (w : World) (hs : s.size ≤ 1000000) :
    Calls Tryd.prog 20 #[.string s] w (RetStrs (lines s.data.toList) w) := by
  obtain ⟨i0, hi, hz0, hz1, hz2⟩ := info_parts info9
  have HI := Lib.hid hi
  have HZ0 := Lib.hid hz0
  have HZ1 := Lib.hid hz1
  have HZ2 := Lib.hid hz2
  clear hi hz0 hz1 hz2
  go_enter Tryd.func20, Tryd.ntmps20
  go_wp2_with fail
  go_loopw [3, 4, 5] (fun o bg i wr => ∃ (k m : Nat) (acc : List (List UInt8)), i = .int .i64 k ∧ bg = .int .i64 m ∧ m ≤ k ∧ k ≤ s.size ∧ acc.length ≤ m ∧ wr.ownsRow w.heap.size 9 1 o acc.length (strC acc) ∧ Below w.heap.size w wr ∧ w.heap.size ≤ wr.heap.size ∧ (∀ j, (h : j < s.size) → m ≤ j → j < k → (s[j].toNat : Int) ≠ 10) ∧ splitNl s.data.toList = acc ++ splitNl (s.data.toList.drop m)) (fun _ _ i _ => s.size - (intOf i).toNat)
  case atStart => exact ⟨0, 0, [], rfl, rfl, by omega, by omega, by simp, World.ownsRow_nil _ _ _ _, Below.refl _ _, Nat.le_refl _, by intro j h h1 h2; omega, rfl⟩
  case round =>
    obtain ⟨k, m, acc, rfl, rfl, hmk, hk, hacc, hown, hb, hge, hno, hsp⟩ := hrel
    have HO := Lib.hid hown
    have HB := Lib.hid hb
    have HN := Lib.hid hno
    have HS := Lib.hid hsp
    clear hown hb hno hsp
    by_cases hlt : k < s.size
    · by_cases hc : (s[k].toNat : Int) = 10
      · have x1 : ((s[k].toNat : Int) == 10) = true := by simp [hc]
        have HS2 : Hid (splitNl s.data.toList = (acc ++ [(s.data.toList.drop m).take (k - m)]) ++ splitNl (s.data.toList.drop (k + 1))) := by
          have h := splitNl_cut (s.data.toList.drop m) (k - m) (by simp; omega) (fun j hj h' => by
            rw [List.getElem_drop]; exact HN.out (m + j) (by simp at hj; omega) (by omega) (by omega)) (by
            rw [List.getElem_drop]
            have e : m + (k - m) = k := by omega
            simp only [e]; exact hc)
          refine Lib.hid ?_
          rw [HS.out, h, List.drop_drop, show m + (k - m + 1) = k + 1 from by omega]; simp
        have HE := Lib.hid (ext_mid s m k)
        clear hc
        go_wp2_with (at_builtin; refine wpList_append_own _ rfl _ _ 34 rfl w.heap.size 9 i0 _ 1 16 Tryd.underlying34 HI.out HZ0.out HZ1.out HZ2.out rfl (by decide) _ _ _ rfl (HO.out.alloc _) ⟨wr.heap.size, 0, none⟩ 1 1 [.string (s.extract m k)] rfl rfl (cell_new _ _ _ _ rfl) (by simp [Value.oneCell']) (by simp [maxLen]; omega) (by omega) (by simp; omega) ?_)
        intro v' w2 hown' hgrow _
        have HO2 := Lib.hid hown'
        have HG2 := Lib.hid hgrow
        clear hown' hgrow
        go_wp2_with fail
        go_roundw
        case rel =>
          refine ⟨k + 1, k + 1, acc ++ [(s.data.toList.drop m).take (k - m)], by go_num, by go_num, by omega, by omega, by simp; omega, ?_, ?_, ?_, by intro j h h1 h2; omega, HS2.out⟩
          · rw [strC_snoc, List.length_append, ← HE.out]; exact HO2.out
          · exact below_grown (HB.out.alloc hge _) (by simp; omega) HG2.out (fun g hg => (HO.out.lt g hg).1)
          · have := HG2.out.size; simp at this; omega
        case measure => simp [intOf]; omega
      · have x1 : ((s[k].toNat : Int) == 10) = false := by simp [hc]
        have HC := Lib.hid hc
        clear hc
        go_wp2_with fail
        go_roundw
        case rel =>
          exact ⟨k + 1, m, acc, by go_num, rfl, by omega, by omega, hacc, HO.out, HB.out, hge, fun j h h1 h2 => by
            rcases Nat.lt_or_ge j k with h3 | h3
            · exact HN.out j h h1 h3
            · obtain rfl : j = k := by omega
              exact HC.out, HS.out⟩
        case measure => simp [intOf]; omega
    · have HP : Hid (splitNl (s.data.toList.drop m) = [s.data.toList.drop m]) := Lib.hid (splitNl_none _ (fun j hj => by
        rw [List.getElem_drop]; exact HN.out (m + j) (by simp at hj; omega) (by omega) (by simp at hj; omega)))
      by_cases hm : m < s.size
      · have HL : Hid (lines s.data.toList = acc ++ [s.data.toList.drop m]) := Lib.hid (by
          unfold lines
          rw [HS.out, HP.out, if_neg]
          simp only [List.getLast?_append, List.getLast?_singleton, Option.some_or]
          intro h
          have := congrArg List.length (Option.some.inj h)
          simp at this; omega)
        have HE := Lib.hid (ext_mid s m s.size)
        go_wp2_with (at_builtin; refine wpList_append_own _ rfl _ _ 34 rfl w.heap.size 9 i0 _ 1 16 Tryd.underlying34 HI.out HZ0.out HZ1.out HZ2.out rfl (by decide) _ _ _ rfl (HO.out.alloc _) ⟨wr.heap.size, 0, none⟩ 1 1 [.string (s.extract m s.size)] rfl rfl (cell_new _ _ _ _ rfl) (by simp [Value.oneCell']) (by simp [maxLen]; omega) (by omega) (by simp; omega) ?_)
        intro v' w2 hown' hgrow _
        obtain ⟨A, c, hv⟩ := ownsRow_form hown'
        subst hv
        have HO2 := Lib.hid hown'
        have HG2 := Lib.hid hgrow
        clear hown' hgrow
        go_wp2_with fail
        go_ret
        refine ret_strs _ _ (acc ++ [s.data.toList.drop m]) HL.out (by simp) ?_ (below_grown (HB.out.alloc hge _) (by simp; omega) HG2.out (fun g hg => (HO.out.lt g hg).1))
        have h9 := Rd.own HO2.out
        rw [HE.out, List.take_of_length_le (by simp)] at h9
        rw [strC_snoc]
        exact h9
      · have HL : Hid (lines s.data.toList = acc) := Lib.hid (by
          unfold lines
          rw [HS.out, HP.out, List.drop_eq_nil_of_le (by simp; omega), if_pos (by simp)]
          simp)
        obtain ⟨A, c, hv⟩ := ownsRow_form HO.out
        subst hv
        go_wp2_with fail
        go_ret
        exact ret_strs _ _ acc HL.out rfl (Rd.own HO.out) HB.out
end Go.Proofs.YtdjpnncehlmehaaDoor
