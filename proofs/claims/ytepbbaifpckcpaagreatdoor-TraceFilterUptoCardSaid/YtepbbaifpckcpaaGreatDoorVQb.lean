/- Slices that are read, slices that a call owns, and the contract of lexer.Tokens. -/
import Derived.OwnWalk
import Derived.StillTailTactics
import Derived.Test.YtepbbaifpckcpaaGreatDoorVPl
import Derived.Test.YtepbbaifpckcpaaGreatDoorVQa
namespace Go.Proofs.YtepbbaifpckcpaaGreatDoor.Q06
open Go.Proofs.YtepbbaifpckcpaaGreatDoor
open Go.RowKit
structure Rd (w : World) (k : Nat) (A : Option Addr) (n : Nat) (xs : List Value) : Prop where
 len : xs.length = n * k
 cells : 0 < xs.length → ∃ b o, A = some ⟨b, o, none⟩ ∧ b < w.heap.size ∧ ∀ j u, xs[j]? = some u → w.cell? ⟨b, o + j, none⟩ = some u
theorem Rd.below {w w' : World} {k n : Nat} {A : Option Addr} {xs : List Value} (h : Rd w k A n xs) (hb : Below w.heap.size w w') : Rd w' k A n xs :=
 ⟨h.len, fun hj => by
  obtain ⟨b, o, e, hl, hc⟩ := h.cells hj
  exact ⟨b, o, e, Nat.lt_of_lt_of_le hl hb.size, fun j u hu => (hb.cell (p := ⟨b, o + j, none⟩) hl).trans (hc j u hu)⟩⟩
theorem add_off (g j : Nat) : (⟨g, 0, none⟩ : Addr).add j = ⟨g, 0 + j, none⟩ := by unfold Addr.add; split <;> simp_all
theorem Rd.own {w : World} {base e k n : Nat} {A : Option Addr} {c : Nat} {xs : List Value} (h : w.ownsRow base e k (.slice A n c) n xs) : Rd w k A n xs := by
 refine ⟨h.1, fun hj => ?_⟩
 rcases h.2 with ⟨h1, h2⟩ | ⟨g, cap, cur, hv, _, hg, _⟩
 · have := h.1; subst h2; simp at this; subst this; simp at hj
 · injection hv with h1 h2 h3
   subst h1
   have hlt := (h.lt g rfl).2
   exact ⟨g, 0, rfl, hlt, fun j u hu => by rw [← add_off]; exact h.cells rfl j u hu⟩
theorem Rd.nil (w : World) (k : Nat) (A : Option Addr) : Rd w k A 0 [] := ⟨by simp, fun hj => by simp at hj⟩
theorem ownsRow_form {w : World} {base e k n : Nat} {v : Value} {xs : List Value} (h : w.ownsRow base e k v n xs) : ∃ A c, v = .slice A n c := by
 rcases h.2 with ⟨h1, h2⟩ | ⟨g, cap, cur, hv, _⟩
 · exact ⟨none, 0, by rw [h1, h2]⟩
 · exact ⟨_, _, hv⟩
theorem ownsRow_below {w w' : World} {base e k n : Nat} {v : Value} {xs : List Value} (h : w.ownsRow base e k v n xs) (hb : Below w.heap.size w w') : w'.ownsRow base e k v n xs := by
 refine ⟨h.1, ?_⟩
 rcases h.2 with h1 | ⟨g, cap, cur, hv, hge, hg, rest⟩
 · exact .inl h1
 · have hlt : g < w.heap.size := (h.lt g (by rw [hv]; rfl)).2
   exact .inr ⟨g, cap, cur, hv, hge, (hb.block g hlt).trans hg, rest⟩
theorem below_grown {B : Nat} {a w w' : World} {row : Option Nat} (h : Below B a w) (hB : B ≤ w.heap.size) (hg : w.grownBy w' row) (hr : ∀ g, row = some g → B ≤ g) : Below B a w' :=
 h.trans ⟨hg.os, hg.tape, hg.output, hg.size, fun k hk => hg.block k (by omega) (fun e => by have := hr k e.symm; omega)⟩
open Go.Proofs.YtepbbaifpckcpaaGreatDoor
open Go.RowKit
theorem len_data (t : ByteArray) : t.data.toList.length = t.size := by simp
open Go.Proofs.YtepbbaifpckcpaaGreatDoor
open Go.RowKit
theorem cell_new (W : World) (cs : List Value) (T : TypeId) (b : Nat) (hb : b = W.heap.size) : ∀ j u, cs[j]? = some u → (W.alloc (.cells cs.toArray T)).cell? ((⟨b, 0, none⟩ : Addr).add j) = some u := by
 intro j u h
 subst hb
 rw [show ((⟨W.heap.size, 0, none⟩ : Addr).add j) = ⟨W.heap.size, j, none⟩ from by unfold Addr.add; split <;> simp_all]
 have h1 : (W.alloc (.cells cs.toArray T)).heap[W.heap.size]? = some (.cells cs.toArray T) := by
  show (W.heap.push _)[W.heap.size]? = _
  simp
 simp only [World.cell?]
 rw [h1]
 simpa using h
open Go.Proofs.YtepbbaifpckcpaaGreatDoor
open Go.RowKit
def hexd (n : Nat) : UInt8 := if n < 10 then (48 + n).toUInt8 else (87 + n).toUInt8
def qch (c : UInt8) : List UInt8 :=
 if (c.toNat : Int) = 34 ∨ (c.toNat : Int) = 92 then [92, c] else if (c.toNat : Int) = 10 then [92, 110]
 else if (c.toNat : Int) < 32 ∨ 126 < (c.toNat : Int) then [92, 120, hexd (c.toNat / 16), hexd (c.toNat % 16)] else [c]
def qmid (l : List UInt8) : List UInt8 := l.flatMap qch
def quote (l : List UInt8) : List UInt8 := 34 :: (qmid l ++ [34])
theorem qch_len (c : UInt8) : (qch c).length ≤ 4 := by
 unfold qch; repeat' split
 all_goals simp
theorem qmid_len (l : List UInt8) : (qmid l).length ≤ 4 * l.length := by
 induction l with
 | nil => simp [qmid]
 | cons c r ih => have := qch_len c; simp only [qmid, List.flatMap_cons, List.length_append, List.length_cons] at ih ⊢; omega
theorem take_succ' (s : ByteArray) (k : Nat) (h : k < s.size) : s.data.toList.take (k + 1) = s.data.toList.take k ++ [s[k]] := by
 rw [List.take_succ_eq_append_getElem (by simpa using h)]; rfl
theorem qmid_snoc (s : ByteArray) (k : Nat) (h : k < s.size) : qmid (s.data.toList.take (k + 1)) = qmid (s.data.toList.take k) ++ qch s[k] := by
 rw [take_succ' s k h]; simp [qmid]
theorem size_lit (a b : List UInt8) : (ByteArray.mk a.toArray ++ ByteArray.mk b.toArray).size = a.length + b.length := by
 rw [str_cat]; simp [ByteArray.size]
theorem size_4 (a b c d : UInt8) : (ByteArray.mk #[a, b, c, d]).size = 4 := rfl
theorem cat3 (a b c d : UInt8) : ByteArray.mk #[a, b] ++ ByteArray.mk #[c] ++ ByteArray.mk #[d] = ByteArray.mk #[a, b, c, d] := by
 apply ByteArray.ext
 simp
theorem ext1 (s : ByteArray) (k : Nat) (h : k < s.size) : s.extract k (k + 1) = ⟨[s[k]].toArray⟩ := by
 apply ByteArray.ext
 apply Array.toList_inj.1
 rw [Lib.extract_data, drop_at s k h]; simp
theorem hex_ext : ∀ d : Fin 16, (ByteArray.mk #[48, 49, 50, 51, 52, 53, 54, 55, 56, 57, 97, 98, 99, 100, 101, 102]).extract d.val (d.val + 1) = ⟨[hexd d.val].toArray⟩ := by decide +kernel
theorem and15' : ∀ n : Fin 256, bits BinOp.and IntKind.u8 (n.val : Int) 15 = (n.val : Int) % 16 := by decide +kernel
theorem and15 (c : UInt8) : bits BinOp.and IntKind.u8 (c.toNat : Int) 15 = (c.toNat : Int) % 16 := and15' ⟨c.toNat, c.toNat_lt⟩
theorem hex_slice (d : Nat) (hd : d < 16) (W : World) : Sem.run Tryz.prog (Instr.slice 9 (.string ⟨#[48, 49, 50, 51, 52, 53, 54, 55, 56, 57, 97, 98, 99, 100, 101, 102]⟩) (some (.int .u8 d)) (some (.int .u8 ((d : Int) + 1))) none) W = .ok (.string ⟨[hexd d].toArray⟩) W := by
 rw [run_slice_string_if W 9 _ .u8 .u8 _ _ Tryz.underlying9]
 rw [if_pos (by simp [ByteArray.size]; omega), if_pos (by omega)]
 rw [show (d : Int).toNat = d from by omega, show ((d : Int) + 1).toNat = d + 1 from by omega]
 rw [hex_ext ⟨d, hd⟩]
def BSt (w0 : World) (l : List UInt8) (w : World) : Prop := Lib.IsBuilder 77 5 w0.heap.size w0.heap.size (Lib.byteCells l) w ∧ Below w0.heap.size w0 w ∧ w0.heap.size ≤ w.heap.size
theorem bst_new (w : World) : BSt w [] (w.alloc (.cells #[.pointer none, .slice none 0 0] 77)) :=
 ⟨Lib.fresh_isBuilder 77 5 w, (Below.refl _ _).alloc (Nat.le_refl _) _, by simp⟩
theorem bst_drewN {w0 w : World} {l : List UInt8} (h : BSt w0 l w) (n : Nat) : BSt w0 l (w.drewN n) := ⟨h.1, below_drewN h.2.1 n, h.2.2⟩
theorem bst_str {w0 w : World} {l : List UInt8} (h : BSt w0 l w) (s : ByteArray) (hl : l.length + s.size ≤ 140737488355328) :
    Calls Tryz.prog 47 #[.pointer (some ⟨w0.heap.size, 0, none⟩), .string s] w fun e w' => e = .returned (.tuple #[.int .i64 s.size, .nilIface]) ∧ BSt w0 (l ++ s.data.toList) w' :=
 (Tryz.Builder_WriteString _ _ _ s w h.1 (by simpa [Lib.byteCells] using hl) h.2.2).mono fun _ _ ⟨he, hI, hb⟩ =>
  ⟨he, by have : Lib.byteCells l ++ Lib.strCells s = Lib.byteCells (l ++ s.data.toList) := by simp [Lib.byteCells, Lib.strCells]
          rw [this] at hI; exact .inr hI, h.2.1.trans hb, Nat.le_trans h.2.2 hb.size⟩
theorem bst_byte {w0 w : World} {l : List UInt8} (h : BSt w0 l w) (c : Int) (h0 : 0 ≤ c) (h1 : c < 256) (hl : l.length + 1 ≤ 140737488355328) :
    Calls Tryz.prog 114 #[.pointer (some ⟨w0.heap.size, 0, none⟩), .int .u8 c] w fun e w' => e = .returned .nilIface ∧ BSt w0 (l ++ [c.toNat.toUInt8]) w' :=
 (Tryz.Builder_WriteByte _ _ _ c w h.1 (by simpa [Lib.byteCells] using hl) h.2.2).mono fun _ _ ⟨he, hI, hb⟩ =>
  ⟨he, by rw [byteCells_snoc l c h0 h1] at hI; exact .inr hI, h.2.1.trans hb, Nat.le_trans h.2.2 hb.size⟩
theorem bst_get {w0 w : World} {l : List UInt8} (h : BSt w0 l w) :
    Calls Tryz.prog 50 #[.pointer (some ⟨w0.heap.size, 0, none⟩)] w fun e w' => e = .returned (.string ⟨l.toArray⟩) ∧ Below w0.heap.size w0 w' :=
 (Tryz.Builder_String_any _ _ l w h.1 h.2.2).mono fun _ _ ⟨he, hb⟩ => ⟨he, h.2.1.trans hb⟩
theorem bst_eq {w0 w : World} {l l' : List UInt8} (h : BSt w0 l w) (e : l = l') : BSt w0 l' w := e ▸ h
set_option maxRecDepth 100000 in
set_option maxHeartbeats 2000000 in
theorem lexQuote_any (s : ByteArray) (w : World) (hs : s.size ≤ 1000000) :
    Calls Tryz.prog 77 #[.string s] w fun e w' => e = .returned (.string ⟨(quote s.data.toList).toArray⟩) ∧ Below w.heap.size w w' := by
 have H0 := hD (bst_new w)
 go_enter Tryz.func77, Tryz.ntmps77
 go_wp2_with fail
 refine (bst_byte H0.out _ (by omega) (by omega) (by simp)).mono ?_
 rintro e w1 ⟨rfl, h1⟩
 have H1 := hD h1
 clear h1
 go_wp2_with fail
 go_loopw [9] (fun i wr => ∃ k : Nat, i = .int .i64 k ∧ k ≤ s.size ∧ BSt w (34 :: qmid (s.data.toList.take k)) wr) (fun i _ => s.size - (intOf i).toNat)
 case atStart => exact ⟨0, rfl, by omega, H1.out⟩
 case round =>
  obtain ⟨k, rfl, hk, hI⟩ := hrel
  have HI := hD hI
  clear hI
  have hql := qmid_len (s.data.toList.take k)
  rw [List.length_take, len_data] at hql
  by_cases hlt : k < s.size
  · have HS := hD (qmid_snoc s k hlt)
    have HE := hD (ext1 s k hlt)
    by_cases h34 : (s[k].toNat : Int) = 34 ∨ (s[k].toNat : Int) = 92
    · have HQ : Hid (qch s[k] = [92, s[k]]) := hD (by unfold qch; rw [if_pos h34])
      have hc : (((s[k].toNat : Int) == 34) = true) ∨ (((s[k].toNat : Int) == 34) = false ∧ ((s[k].toNat : Int) == 92) = true) := by
       by_cases h1 : (s[k].toNat : Int) = 34
       · left; simp [h1]
       · right; exact ⟨by simp [h1], by simp; omega⟩
      clear h34
      rcases hc with hc | ⟨hc, hc2⟩
      all_goals
       go_wp2_with fail
       refine (bst_str HI.out _ (by rw [HE.out, size_lit [92] [s[k]]]; simp; omega)).mono ?_
       rintro e w2 ⟨rfl, h2⟩
       have H2 := hD h2
       clear h2
       go_wp2_with fail
       go_roundw
       case rel =>
        refine ⟨k + 1, by go_num, by omega, bst_eq H2.out ?_⟩
        rw [HS.out, HQ.out, HE.out]; simp
       case measure => simp [intOf]; omega
    · have c1 : ((s[k].toNat : Int) == 34) = false := by rw [beq_eq_false_iff_ne]; omega
      have c2 : ((s[k].toNat : Int) == 92) = false := by rw [beq_eq_false_iff_ne]; omega
      by_cases h10 : (s[k].toNat : Int) = 10
      · have c3 : ((s[k].toNat : Int) == 10) = true := by simp [h10]
        have HQ : Hid (qch s[k] = [92, 110]) := hD (by unfold qch; rw [if_neg h34, if_pos h10])
        clear h34 h10
        go_wp2_with fail
        refine (bst_str HI.out _ (by simp [ByteArray.size]; omega)).mono ?_
        rintro e w2 ⟨rfl, h2⟩
        have H2 := hD h2
        clear h2
        go_wp2_with fail
        go_roundw
        case rel =>
         refine ⟨k + 1, by go_num, by omega, bst_eq H2.out ?_⟩
         rw [HS.out, HQ.out]; simp
        case measure => simp [intOf]; omega
      · have c3 : ((s[k].toNat : Int) == 10) = false := by rw [beq_eq_false_iff_ne]; exact h10
        by_cases hp : (s[k].toNat : Int) < 32 ∨ 126 < (s[k].toNat : Int)
        · have HQ : Hid (qch s[k] = [92, 120, hexd (s[k].toNat / 16), hexd (s[k].toNat % 16)]) := hD (by unfold qch; rw [if_neg h34, if_neg h10, if_pos hp])
          have hb := byte_lt s[k]
          clear h34 h10
          rcases hp with hp | hp
          all_goals
           go_wp2_with fail
           have f1 := hex_slice (s[k].toNat / 16) (by omega)
           have f2 := hex_slice (s[k].toNat % 16) (by omega)
           simp only [Int.natCast_ediv, Int.natCast_emod, Int.cast_ofNat_Int] at f1 f2
           have e1 : IntKind.u8.wrap ((s[k].toNat : Int) / 16 + 1) = (s[k].toNat : Int) / 16 + 1 := IntWalk.u8_in _ (by omega)
           have e2 : IntKind.u8.wrap ((s[k].toNat : Int) % 16 + 1) = (s[k].toNat : Int) % 16 + 1 := IntWalk.u8_in _ (by omega)
           have e3 := and15 s[k]
           go_still_tail 14, (by kernel_rfl)
           change wpList _ _ _ _ _ wr.drew
           generalize hwd : wr.drew = w2
           have HI2 : Hid (BSt w (34 :: qmid (s.data.toList.take k)) w2) := hD (by rw [← hwd]; exact bst_drewN HI.out 1)
           clear hwd e1 e2 e3 f1 f2
           go_wp2_with fail
           refine (bst_str HI2.out _ (by rw [cat3, size_4]; simp; omega)).mono ?_
           rintro e w3 ⟨rfl, h2⟩
           rw [cat3] at h2
           have H2 := hD h2
           clear h2
           go_wp2_with fail
           go_roundw
           case rel =>
            refine ⟨k + 1, by go_num, by omega, bst_eq H2.out ?_⟩
            rw [HS.out, HQ.out]; simp
           case measure => simp [intOf]; omega
        · have HQ : Hid (qch s[k] = [s[k]]) := hD (by unfold qch; rw [if_neg h34, if_neg h10, if_neg hp])
          have b1 : 32 ≤ (s[k].toNat : Int) := by omega
          have b2 : (s[k].toNat : Int) ≤ 126 := by omega
          clear h34 h10 hp
          go_wp2_with fail
          refine (bst_byte HI.out _ (by omega) (byte_lt _) (by simp; omega)).mono ?_
          rintro e w2 ⟨rfl, h2⟩
          have H2 := hD h2
          clear h2
          go_wp2_with fail
          go_roundw
          case rel =>
           refine ⟨k + 1, by go_num, by omega, bst_eq H2.out ?_⟩
           rw [HS.out, HQ.out]; simp
          case measure => simp [intOf]; omega
  · have HT : Hid (s.data.toList.take k = s.data.toList) := hD (List.take_of_length_le (by simp; omega))
    go_wp2_with fail
    refine (bst_byte HI.out _ (by omega) (by omega) (by simp; omega)).mono ?_
    rintro e w2 ⟨rfl, h2⟩
    have H2 := hD h2
    clear h2
    go_wp2_with fail
    refine (bst_get H2.out).mono ?_
    rintro e w3 ⟨rfl, hb⟩
    have HB := hD hb
    clear hb
    go_wp2_with fail
    go_ret
    refine ⟨?_, HB.out⟩
    rw [HT.out]; rfl
end Go.Proofs.YtepbbaifpckcpaaGreatDoor.Q06
