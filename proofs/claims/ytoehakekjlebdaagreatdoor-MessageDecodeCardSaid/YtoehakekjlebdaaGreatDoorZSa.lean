/- The source's block, and the contracts of message.take. -/
import Derived.Test.YtoehakekjlebdaaGreatDoorZPl
import Derived.Test.YtoehakekjlebdaaGreatDoorZVa
import Derived.Test.YtoehakekjlebdaaGreatDoorZWg
import Derived.Deep.MidRow
import Derived.Deep.RegionHeld3
import Derived.Deep.RegionWith
import Derived.Laws.Rows
import Derived.Laws.IdiomCopy
import Derived.Deep.Cut
import Derived.Deep.CutRange
import Derived.Maps.AppendAt
namespace Go.Proofs.YtoehakekjlebdaaGreatDoor
open Go.RowKit

/-- the source's block: the rest and the mark -/
structure Ss (w : World) (g : Nat) (s : Sc) : Prop where
  lt : g < w.heap.size
  c0 : w.cell? ⟨g, 0, none⟩ = some (.string ⟨s.rest.toArray⟩)
  c1 : w.cell? ⟨g, 1, none⟩ = some (.bool s.bad)
  f0 : w.frozen? ⟨g, 0, none⟩ = false
  f1 : w.frozen? ⟨g, 1, none⟩ = false
theorem Ss.below {w w' : World} {g : Nat} {s : Sc} (h : Ss w g s) (hb : Below w.heap.size w w') : Ss w' g s where
  lt := Nat.lt_of_lt_of_le h.lt hb.size
  c0 := (hb.cell (p := ⟨g, 0, none⟩) h.lt).trans h.c0
  c1 := (hb.cell (p := ⟨g, 1, none⟩) h.lt).trans h.c1
  f0 := (hb.frozen (p := ⟨g, 0, none⟩) h.lt).trans h.f0
  f1 := (hb.frozen (p := ⟨g, 1, none⟩) h.lt).trans h.f1
theorem Ss.set0 {w : World} {g : Nat} {s : Sc} (h : Ss w g s) (r : List UInt8) : Ss (w.setCell ⟨g, 0, none⟩ (.string ⟨r.toArray⟩)) g ⟨r, s.bad⟩ where
  lt := by simpa using h.lt
  c0 := World.cell?_setCell_same _ _ _ h.c0
  c1 := (World.cell?_setCell_other _ _ _ _ (by simp)).trans h.c1
  f0 := (frz_set _ _ _ _).trans h.f0
  f1 := (frz_set _ _ _ _).trans h.f1
theorem Ss.set1 {w : World} {g : Nat} {s : Sc} (h : Ss w g s) (b : Bool) : Ss (w.setCell ⟨g, 1, none⟩ (.bool b)) g ⟨s.rest, b⟩ where
  lt := by simpa using h.lt
  c0 := (World.cell?_setCell_other _ _ _ _ (by simp)).trans h.c0
  c1 := World.cell?_setCell_same _ _ _ h.c1
  f0 := (frz_set _ _ _ _).trans h.f0
  f1 := (frz_set _ _ _ _).trans h.f1
/-- the source has turned, nothing else that stood -/
def SsTo (w : World) (g : Nat) (s : Sc) (w' : World) : Prop := w.grownBy w' (some g) ∧ Ss w' g s
theorem SsTo.refl {w : World} {g : Nat} {s : Sc} (h : Ss w g s) : SsTo w g s w := ⟨grown_below (Below.refl _ _) _, h⟩
theorem SsTo.trans {w w1 w2 : World} {g : Nat} {s s' : Sc} (h : SsTo w g s w1) (k : SsTo w1 g s' w2) : SsTo w g s' w2 := ⟨h.1.trans k.1, k.2⟩
theorem SsTo.below {w w1 w2 : World} {g : Nat} {s : Sc} (h : SsTo w g s w1) (k : Below w1.heap.size w1 w2) : SsTo w g s w2 := ⟨h.1.trans (grown_below k _), h.2.below k⟩
theorem SsTo.set0 {w w1 : World} {g : Nat} {s : Sc} (h : SsTo w g s w1) (r : List UInt8) : SsTo w g ⟨r, s.bad⟩ (w1.setCell ⟨g, 0, none⟩ (.string ⟨r.toArray⟩)) := ⟨h.1.trans (grown_set _ _ _), h.2.set0 r⟩
theorem SsTo.set1 {w w1 : World} {g : Nat} {s : Sc} (h : SsTo w g s w1) (b : Bool) : SsTo w g ⟨s.rest, b⟩ (w1.setCell ⟨g, 1, none⟩ (.bool b)) := ⟨h.1.trans (grown_set _ _ _), h.2.set1 b⟩
theorem SsTo.set0' {w w1 : World} {g : Nat} {s : Sc} (h : SsTo w g s w1) (r : List UInt8) (x : ByteArray) (hx : x = ⟨r.toArray⟩) : SsTo w g ⟨r, s.bad⟩ (w1.setCell ⟨g, 0, none⟩ (.string x)) := hx ▸ h.set0 r
theorem SsTo.eq {w w1 : World} {g : Nat} {s s' : Sc} (h : SsTo w g s w1) (e : s = s') : SsTo w g s' w1 := e ▸ h
theorem Ss.drew {w : World} {g : Nat} {s : Sc} (h : Ss w g s) : Ss w.drew g s := h.below (Below.refl _ _).drew
theorem Ss.alloc {w : World} {g : Nat} {s : Sc} (h : Ss w g s) (o : Obj) : Ss (w.alloc o) g s := h.below (below_new _ _)
theorem Ss.new (w : World) (r : List UInt8) (b : Bool) (T : TypeId) : Ss (w.alloc (.cells #[.string ⟨r.toArray⟩, .bool b] T)) w.heap.size ⟨r, b⟩ where
  lt := by simp
  c0 := by simp
  c1 := by simp
  f0 := by simp
  f1 := by simp
theorem grown_drew {w w' : World} {row : Option Nat} (h : w.grownBy w' row) : w.grownBy w'.drew row := h.trans (grown_below (Below.refl _ _).drew _)
theorem grown_alloc {w w' : World} {row : Option Nat} (h : w.grownBy w' row) (o : Obj) : w.grownBy (w'.alloc o) row := h.trans (grown_below (below_new _ _) _)
theorem grown_on {w w1 w2 : World} {row : Option Nat} (h : w.grownBy w1 row) (k : Below w1.heap.size w1 w2) : w.grownBy w2 row := h.trans (grown_below k _)

/-- the blocks from b on, that stand, stand as they are -/
def Keeps (b : Nat) (w w' : World) : Prop := w.heap.size ≤ w'.heap.size ∧ ∀ k, b ≤ k → k < w.heap.size → w'.heap[k]? = w.heap[k]?
theorem Keeps.refl (b : Nat) (w : World) : Keeps b w w := ⟨Nat.le_refl _, fun _ _ _ => rfl⟩
theorem Keeps.trans {b : Nat} {w w1 w2 : World} (h : Keeps b w w1) (k : Keeps b w1 w2) : Keeps b w w2 :=
  ⟨Nat.le_trans h.1 k.1, fun i hb hi => (k.2 i hb (Nat.lt_of_lt_of_le hi h.1)).trans (h.2 i hb hi)⟩
theorem Keeps.up {b b' : Nat} {w w' : World} (h : Keeps b w w') (hb : b ≤ b') : Keeps b' w w' := ⟨h.1, fun i hi => h.2 i (Nat.le_trans hb hi)⟩
theorem keeps_below {w w' : World} (b : Nat) (h : Below w.heap.size w w') : Keeps b w w' := ⟨h.size, fun k _ hk => h.block k hk⟩
theorem keeps_grown {w w' : World} {g b : Nat} (h : w.grownBy w' (some g)) (hg : g < b) : Keeps b w w' := ⟨h.size, fun k hb hk => h.block k hk (fun e => by simp only [Option.some.injEq] at e; omega)⟩
theorem keeps_row {w w' : World} {row : Option Nat} {b : Nat} (h : w.grownBy w' row) (hg : ∀ g, row = some g → g < b) : Keeps b w w' := ⟨h.size, fun k hb hk => h.block k hk (fun e => by have := hg k e.symm; omega)⟩
/-- what holds as long as the blocks from b on stand -/
def Stays (b : Nat) (P : World → Prop) (w : World) : Prop := ∀ w', Keeps b w w' → P w'
theorem Stays.out {b : Nat} {P : World → Prop} {w : World} (h : Stays b P w) : P w := h w (Keeps.refl _ _)
theorem Stays.on {b : Nat} {P : World → Prop} {w w1 : World} (h : Stays b P w) (k : Keeps b w w1) : Stays b P w1 := fun w' h' => h w' (k.trans h')
theorem Stays.low {b b' : Nat} {P : World → Prop} {w : World} (h : Stays b P w) (hb : b' ≤ b) : Stays b' P w := fun w' h' => h w' (h'.up hb)
theorem Stays.imp {b : Nat} {P Q : World → Prop} {w : World} (h : Stays b P w) (k : ∀ w', P w' → Q w') : Stays b Q w := fun w' h' => k w' (h w' h')
theorem Stays.and {b : Nat} {P Q : World → Prop} {w : World} (h : Stays b P w) (k : Stays b Q w) : Stays b (fun w => P w ∧ Q w) w := fun w' h' => ⟨h w' h', k w' h'⟩
theorem stays_const {b : Nat} {P : Prop} {w : World} (h : P) : Stays b (fun _ => P) w := fun _ _ => h
theorem stays_all {α : Type} {b : Nat} {l : List α} {P : α → World → Prop} {w : World} (h : ∀ x ∈ l, Stays b (P x) w) : Stays b (fun w => ∀ x ∈ l, P x w) w := fun w' h' x hx => h x hx w' h'
theorem stays_row {b base e k n : Nat} {A : Option Addr} {c : Nat} {xs : List Value} {w : World} (h : w.ownsRow base e k (.slice A n c) n xs) (hb : b ≤ base) : Stays b (fun w => Rd w k A n xs) w := by
  intro w' hw
  refine Rd.own (base := base) (e := e) (c := c) ⟨h.1, ?_⟩
  rcases h.2 with h1 | ⟨g, cap, cur, hv, hge, hg, rest⟩
  · exact .inl h1
  · have hlt : g < w.heap.size := (h.lt g (by rw [hv]; rfl)).2
    exact .inr ⟨g, cap, cur, hv, hge, (hw.2 g (by omega) hlt).trans hg, rest⟩
theorem stays_nil {b k : Nat} {A : Option Addr} {w : World} : Stays b (fun w => Rd w k A 0 []) w := fun w' _ => Rd.nil w' k A
theorem stays_new {b k n : Nat} {cs : List Value} {T : TypeId} {w : World} (h : cs.length = n * k) (hb : b ≤ w.heap.size) : Stays b (fun w' => Rd w' k (some ⟨w.heap.size, 0, none⟩) n cs) (w.alloc (.cells cs.toArray T)) := by
  intro w' hw
  have hr := rd_new w k n cs T h
  refine ⟨hr.len, fun hj => ⟨w.heap.size, 0, rfl, Nat.lt_of_lt_of_le (by simp) hw.1, fun j u hu => ?_⟩⟩
  have h1 : (w.alloc (.cells cs.toArray T)).cell? ⟨w.heap.size, 0 + j, none⟩ = some u := by rw [← add_off]; exact cell_new w cs T _ rfl j u hu
  rw [← h1]
  simp only [World.cell?]
  rw [hw.2 w.heap.size hb (by simp)]

/-! what comes back from a source -/
def RetText (g : Nat) (r : List UInt8 × Sc) (w : World) (e : Ending) (w' : World) : Prop := e = .returned (.string ⟨r.1.toArray⟩) ∧ SsTo w g r.2 w'
def RetTexts (g : Nat) (r : List (List UInt8) × Sc) (w : World) (e : Ending) (w' : World) : Prop :=
  ∃ A c, e = .returned (.slice A r.1.length c) ∧ Stays w.heap.size (fun w => Rd w 1 A r.1.length (strC r.1)) w' ∧ SsTo w g r.2 w'
def RetInts (g : Nat) (r : List Int × Sc) (w : World) (e : Ending) (w' : World) : Prop :=
  ∃ A c, e = .returned (.slice A r.1.length c) ∧ Stays w.heap.size (fun w => Rd w 1 A r.1.length (intC r.1)) w' ∧ SsTo w g r.2 w'
theorem ret_text {g : Nat} {r r' : List UInt8 × Sc} {w w' : World} (h : r = r') (k : SsTo w g r'.2 w') : RetText g r w (.returned (.string ⟨r'.1.toArray⟩)) w' := by subst h; exact ⟨rfl, k⟩
theorem ret_texts {g : Nat} {r r' : List (List UInt8) × Sc} {w w' : World} {A : Option Addr} {n c : Nat} (h : r = r') (hn : n = r'.1.length) (hr : Stays w.heap.size (fun w => Rd w 1 A r'.1.length (strC r'.1)) w') (k : SsTo w g r'.2 w') : RetTexts g r w (.returned (.slice A n c)) w' := by subst h hn; exact ⟨A, c, rfl, hr, k⟩
theorem ret_ints {g : Nat} {r r' : List Int × Sc} {w w' : World} {A : Option Addr} {n c : Nat} (h : r = r') (hn : n = r'.1.length) (hr : Stays w.heap.size (fun w => Rd w 1 A r'.1.length (intC r'.1)) w') (k : SsTo w g r'.2 w') : RetInts g r w (.returned (.slice A n c)) w' := by subst h hn; exact ⟨A, c, rfl, hr, k⟩
end Go.Proofs.YtoehakekjlebdaaGreatDoor
/- The contracts of message.take and of the source's text, texts, ints. -/
namespace Go.Proofs.YtoehakekjlebdaaGreatDoor
open Go.RowKit

theorem ext_list (r : List UInt8) (k : Nat) (_h : k ≤ r.length) : (ByteArray.mk r.toArray).extract k r.length = ⟨(r.drop k).toArray⟩ := by
  rw [ext_mid]
  simp only []
  rw [List.take_of_length_le (by simp)]
theorem getList_leW {s : List UInt8} {xs : List (List UInt8)} {k : Nat} (h : getList s = some (xs, k)) : k ≤ s.length :=
  (getAll_sum getStr szS (fun s x k h => by have := getStr_le h; unfold szS; omega) h).2
theorem getInts_leW {s : List UInt8} {xs : List Int} {k : Nat} (h : getInts s = some (xs, k)) : k ≤ s.length :=
  (getAll_sum getInt (fun _ => 1) (fun s x k h => getInt_le s x k h) h).2
set_option maxRecDepth 100000 in
set_option maxHeartbeats 2000000 in
theorem takeText_any (g : Nat) (s : Sc) (w : World) (hs : Ss w g s) (hl : s.rest.length ≤ 1099511627776) :
    Calls Tryz.prog 102 #[.pointer (some ⟨g, 0, none⟩), .func (.func 103) #[] #[]] w (RetText g (tkText s) w) := by
  obtain ⟨r, b⟩ := s
  have hlen : (ByteArray.mk r.toArray).size ≤ 70368744177664 := by rw [size_mk]; exact Nat.le_trans hl (by decide)
  have c0 := hs.c0
  have c1 := hs.c1
  have f0 := hs.f0
  have f1 := hs.f1
  have lt := hs.lt
  simp only at c0 c1
  have HS := Lib.hid hs
  cases hg : getStr r with
  | none =>
    have HG := Lib.hid (gets_none ⟨r.toArray⟩ w hlen (by simpa using hg))
    have HR : Hid (tkText ⟨r, b⟩ = ([], ⟨r, true⟩)) := Lib.hid (by unfold tkText tkR; cases b <;> simp [hg])
    clear hg hs
    go_enter Tryz.func102, Tryz.ntmps102
    go_wp2_with fail
    refine HG.out.mono ?_
    rintro e w' ⟨rfl, c, hc, rfl⟩
    have hc1 : (c == 0) = false := by simpa using hc
    have hc2 : (c != 0) = true := by simpa using hc
    go_wp2_with fail
    go_ret
    exact ret_text HR.out ((SsTo.refl HS.out).set1 true)
  | some y =>
    obtain ⟨x, k⟩ := y
    have HG := Lib.hid (gets_some ⟨r.toArray⟩ w hlen x k (by simpa using hg))
    have hk := getStr_le hg
    obtain ⟨k0, k1, k2⟩ := hk
    cases b with
    | true =>
      have HR : Hid (tkText ⟨r, true⟩ = ([], ⟨r, true⟩)) := Lib.hid rfl
      clear hg hs
      go_enter Tryz.func102, Tryz.ntmps102
      go_wp2_with fail
      refine HG.out.mono ?_
      rintro e w' ⟨rfl, rfl⟩
      go_wp2_with fail
      go_ret
      exact ret_text HR.out ((SsTo.refl HS.out).set1 true)
    | false =>
      have HR : Hid (tkText ⟨r, false⟩ = (x, ⟨r.drop k, false⟩)) := Lib.hid (by unfold tkText tkR; simp [hg])
      have HX := Lib.hid (ext_list r k k1)
      clear hg hs
      go_enter Tryz.func102, Tryz.ntmps102
      go_wp2_with fail
      refine HG.out.mono ?_
      rintro e w' ⟨rfl, rfl⟩
      go_wp2_with fail
      go_ret
      exact ret_text HR.out ((SsTo.refl HS.out).set0' _ _ HX.out)
set_option maxHeartbeats 2000000 in
theorem text_any (g : Nat) (s : Sc) (w : World) (hs : Ss w g s) (hl : s.rest.length ≤ 1099511627776) :
    Calls Tryz.prog 66 #[.pointer (some ⟨g, 0, none⟩)] w (RetText g (tkText s) w) := by
  have H := Lib.hid (takeText_any g s w hs hl)
  clear hs
  go_enter Tryz.func66, Tryz.ntmps66
  go_wp2_with fail
  refine H.out.mono ?_
  rintro e w' ⟨rfl, h⟩
  have HH := Lib.hid h
  clear h
  go_wp2_with fail
  go_ret
  exact ⟨rfl, HH.out⟩
set_option maxRecDepth 100000 in
set_option maxHeartbeats 2000000 in
theorem takeTexts_any (g : Nat) (s : Sc) (w : World) (hs : Ss w g s) (hl : s.rest.length ≤ 1099511627776) :
    Calls Tryz.prog 113 #[.pointer (some ⟨g, 0, none⟩), .func (.func 114) #[] #[]] w (RetTexts g (tkR getList [] s) w) := by
  obtain ⟨r, b⟩ := s
  have hlen : (ByteArray.mk r.toArray).size ≤ 1099511627776 := by rw [size_mk]; exact hl
  have c0 := hs.c0
  have c1 := hs.c1
  have f0 := hs.f0
  have f1 := hs.f1
  have lt := hs.lt
  simp only at c0 c1
  have HS := Lib.hid hs
  have HA := getTexts_any ⟨r.toArray⟩ w hlen
  cases hg : getList r with
  | none =>
    have HG := Lib.hid (retT_none HA (by simpa using hg))
    have HR : Hid (tkR getList [] ⟨r, b⟩ = ([], ⟨r, true⟩)) := Lib.hid (by unfold tkR; cases b <;> simp [hg])
    clear hg hs HA
    go_enter Tryz.func113, Tryz.ntmps113
    go_wp2_with fail
    refine HG.out.mono ?_
    rintro e w' ⟨⟨c, hc, rfl⟩, hb⟩
    have hc1 : (c == 0) = false := by simpa using hc
    have hc2 : (c != 0) = true := by simpa using hc
    have HS1 := Lib.hid ((SsTo.refl HS.out).below hb)
    have d0 := HS1.out.2.c0
    have d1 := HS1.out.2.c1
    have e0 := HS1.out.2.f0
    have e1 := HS1.out.2.f1
    have dlt := HS1.out.2.lt
    clear hb c0 c1 f0 f1 lt
    go_wp2_with fail
    go_ret
    exact ret_texts HR.out rfl stays_nil (HS1.out.set1 true)
  | some y =>
    obtain ⟨x, k⟩ := y
    have HG := Lib.hid (retT_some HA (by simpa using hg))
    have k1 := getList_leW hg
    cases b with
    | true =>
      have HR : Hid (tkR getList [] ⟨r, true⟩ = ([], ⟨r, true⟩)) := Lib.hid rfl
      clear hg hs HA
      go_enter Tryz.func113, Tryz.ntmps113
      go_wp2_with fail
      refine HG.out.mono ?_
      rintro e w' ⟨⟨A, c, rfl, hr⟩, hb⟩
      have HS1 := Lib.hid ((SsTo.refl HS.out).below hb)
      have d0 := HS1.out.2.c0
      have d1 := HS1.out.2.c1
      have e0 := HS1.out.2.f0
      have e1 := HS1.out.2.f1
      have dlt := HS1.out.2.lt
      clear hb c0 c1 f0 f1 lt hr
      go_wp2_with fail
      go_ret
      exact ret_texts HR.out rfl stays_nil (HS1.out.set1 true)
    | false =>
      have HR : Hid (tkR getList [] ⟨r, false⟩ = (x, ⟨r.drop k, false⟩)) := Lib.hid (by unfold tkR; simp [hg])
      have HX := Lib.hid (ext_list r k k1)
      clear hg hs HA
      go_enter Tryz.func113, Tryz.ntmps113
      go_wp2_with fail
      refine HG.out.mono ?_
      rintro e w' ⟨⟨A, c, rfl, hr⟩, hb⟩
      have HS1 := Lib.hid ((SsTo.refl HS.out).below hb)
      have HQ := Lib.hid ((stays_row hr (Nat.le_refl _)).on (keeps_grown (grown_set w' ⟨g, 0, none⟩ (.string ⟨(r.drop k).toArray⟩)) lt))
      have d0 := HS1.out.2.c0
      have d1 := HS1.out.2.c1
      have e0 := HS1.out.2.f0
      have e1 := HS1.out.2.f1
      have dlt := HS1.out.2.lt
      clear hb c0 c1 f0 f1 lt hr
      go_wp2_with fail
      go_ret
      exact ret_texts HR.out rfl (by rw [HX.out]; exact HQ.out) (HS1.out.set0' _ _ HX.out)
set_option maxRecDepth 100000 in
set_option maxHeartbeats 2000000 in
theorem takeInts_any (g : Nat) (s : Sc) (w : World) (hs : Ss w g s) (hl : s.rest.length ≤ 1099511627776) :
    Calls Tryz.prog 100 #[.pointer (some ⟨g, 0, none⟩), .func (.func 101) #[] #[]] w (RetInts g (tkR getInts [] s) w) := by
  obtain ⟨r, b⟩ := s
  have hlen : (ByteArray.mk r.toArray).size ≤ 1099511627776 := by rw [size_mk]; exact hl
  have c0 := hs.c0
  have c1 := hs.c1
  have f0 := hs.f0
  have f1 := hs.f1
  have lt := hs.lt
  simp only at c0 c1
  have HS := Lib.hid hs
  have HA := getInts_any ⟨r.toArray⟩ w hlen
  cases hg : getInts r with
  | none =>
    have HG := Lib.hid (retN_none HA (by simpa using hg))
    have HR : Hid (tkR getInts [] ⟨r, b⟩ = ([], ⟨r, true⟩)) := Lib.hid (by unfold tkR; cases b <;> simp [hg])
    clear hg hs HA
    go_enter Tryz.func100, Tryz.ntmps100
    go_wp2_with fail
    refine HG.out.mono ?_
    rintro e w' ⟨⟨c, hc, rfl⟩, hb⟩
    have hc1 : (c == 0) = false := by simpa using hc
    have hc2 : (c != 0) = true := by simpa using hc
    have HS1 := Lib.hid ((SsTo.refl HS.out).below hb)
    have d0 := HS1.out.2.c0
    have d1 := HS1.out.2.c1
    have e0 := HS1.out.2.f0
    have e1 := HS1.out.2.f1
    have dlt := HS1.out.2.lt
    clear hb c0 c1 f0 f1 lt
    go_wp2_with fail
    go_ret
    exact ret_ints HR.out rfl stays_nil (HS1.out.set1 true)
  | some y =>
    obtain ⟨x, k⟩ := y
    have HG := Lib.hid (retN_some HA (by simpa using hg))
    have k1 := getInts_leW hg
    cases b with
    | true =>
      have HR : Hid (tkR getInts [] ⟨r, true⟩ = ([], ⟨r, true⟩)) := Lib.hid rfl
      clear hg hs HA
      go_enter Tryz.func100, Tryz.ntmps100
      go_wp2_with fail
      refine HG.out.mono ?_
      rintro e w' ⟨⟨A, c, rfl, hr⟩, hb⟩
      have HS1 := Lib.hid ((SsTo.refl HS.out).below hb)
      have d0 := HS1.out.2.c0
      have d1 := HS1.out.2.c1
      have e0 := HS1.out.2.f0
      have e1 := HS1.out.2.f1
      have dlt := HS1.out.2.lt
      clear hb c0 c1 f0 f1 lt hr
      go_wp2_with fail
      go_ret
      exact ret_ints HR.out rfl stays_nil (HS1.out.set1 true)
    | false =>
      have HR : Hid (tkR getInts [] ⟨r, false⟩ = (x, ⟨r.drop k, false⟩)) := Lib.hid (by unfold tkR; simp [hg])
      have HX := Lib.hid (ext_list r k k1)
      clear hg hs HA
      go_enter Tryz.func100, Tryz.ntmps100
      go_wp2_with fail
      refine HG.out.mono ?_
      rintro e w' ⟨⟨A, c, rfl, hr⟩, hb⟩
      have HS1 := Lib.hid ((SsTo.refl HS.out).below hb)
      have HQ := Lib.hid ((stays_row hr (Nat.le_refl _)).on (keeps_grown (grown_set w' ⟨g, 0, none⟩ (.string ⟨(r.drop k).toArray⟩)) lt))
      have d0 := HS1.out.2.c0
      have d1 := HS1.out.2.c1
      have e0 := HS1.out.2.f0
      have e1 := HS1.out.2.f1
      have dlt := HS1.out.2.lt
      clear hb c0 c1 f0 f1 lt hr
      go_wp2_with fail
      go_ret
      exact ret_ints HR.out rfl (by rw [HX.out]; exact HQ.out) (HS1.out.set0' _ _ HX.out)
set_option maxHeartbeats 2000000 in
theorem texts_any (g : Nat) (s : Sc) (w : World) (hs : Ss w g s) (hl : s.rest.length ≤ 1099511627776) :
    Calls Tryz.prog 84 #[.pointer (some ⟨g, 0, none⟩)] w (RetTexts g (tkTexts s) w) := by
  have H := Lib.hid (takeTexts_any g s w hs hl)
  clear hs
  go_enter Tryz.func84, Tryz.ntmps84
  go_wp2_with fail
  refine H.out.mono ?_
  rintro e w' ⟨A, c, rfl, hr, h⟩
  have HQ := Lib.hid hr
  have HH := Lib.hid h
  clear h hr
  go_wp2_with fail
  go_ret
  exact ⟨A, c, rfl, HQ.out, HH.out⟩
theorem infoInt : (Tryz.prog.info? 3).map (fun i => (i.zero, i.size, i.bytes)) = some (some (.int .i64 0), 1, 8) := by kernel_rfl
theorem mk1 (w : World) : (Instr.makeSlice 68 (.int .i64 1) (.int .i64 1)).run Tryz.prog w = .ok (.slice (some ⟨w.heap.size, 0, none⟩) 1 1) (w.alloc (.cells #[.int .i64 0] 3)) := by kernel_rfl
set_option maxHeartbeats 2000000 in
theorem ints1_any (g : Nat) (s : Sc) (w : World) (hs : Ss w g s) (hl : s.rest.length ≤ 1099511627776) :
    Calls Tryz.prog 65 #[.pointer (some ⟨g, 0, none⟩), .int .i64 1] w (RetInts g (tkInts 1 s) w) := by
  have H := Lib.hid (takeInts_any g s w hs hl)
  have lt := hs.lt
  clear hs
  obtain ⟨p, hp⟩ : ∃ p, p = tkR getInts [] s := ⟨_, rfl⟩
  obtain ⟨xs, s'⟩ := p
  by_cases hq : xs.length = 1
  · have HR : Hid (tkInts 1 s = (xs, s')) := Lib.hid (by unfold tkInts; rw [← hp, if_pos hq])
    rw [← hp] at H
    have hq1 : ((xs.length : Int) == 1) = true := by simp [hq]
    have hq2 : ((xs.length : Int) != 1) = false := by simp [hq]
    clear hp hq
    go_enter Tryz.func65, Tryz.ntmps65
    go_wp2_with fail
    refine H.out.mono ?_
    rintro e w' ⟨A, c, rfl, hr, h⟩
    have HQ := Lib.hid hr
    have HH := Lib.hid h
    clear h hr
    simp only
    go_wp2_with fail
    go_ret
    exact ret_ints HR.out rfl HQ.out HH.out
  · have HR : Hid (tkInts 1 s = (List.replicate 1 0, ⟨s'.rest, true⟩)) := Lib.hid (by unfold tkInts; rw [← hp, if_neg hq])
    rw [← hp] at H
    have hq1 : ((xs.length : Int) == 1) = false := by rw [beq_eq_false_iff_ne]; omega
    have hq2 : ((xs.length : Int) != 1) = true := by rw [bne_iff_ne]; omega
    have hmk := mk1
    clear hp hq
    go_enter Tryz.func65, Tryz.ntmps65
    go_wp2_with fail
    refine H.out.mono ?_
    rintro e w' ⟨A, c, rfl, hr, h⟩
    have HH := Lib.hid (h.set1 true)
    have d0 := h.2.c0
    have d1 := h.2.c1
    have e0 := h.2.f0
    have e1 := h.2.f1
    have dlt := h.2.lt
    have hsz : w.heap.size ≤ (w'.setCell ⟨g, 1, none⟩ (.bool true)).heap.size := by have := h.1.size; simpa using this
    have HQ := Lib.hid (stays_new (b := w.heap.size) (k := 1) (n := 1) (cs := intC (List.replicate 1 0)) (T := 3) (w := w'.setCell ⟨g, 1, none⟩ (.bool true)) rfl hsz)
    clear h hr
    simp only
    go_wp2_with fail
    go_ret
    exact ret_ints HR.out rfl (by simpa [intC] using HQ.out) (HH.out.below (below_new _ _))
theorem mk4 (w : World) : (Instr.makeSlice 68 (.int .i64 4) (.int .i64 4)).run Tryz.prog w = .ok (.slice (some ⟨w.heap.size, 0, none⟩) 4 4) (w.alloc (.cells #[.int .i64 0, .int .i64 0, .int .i64 0, .int .i64 0] 3)) := by kernel_rfl
set_option maxHeartbeats 2000000 in
theorem ints4_any (g : Nat) (s : Sc) (w : World) (hs : Ss w g s) (hl : s.rest.length ≤ 1099511627776) :
    Calls Tryz.prog 65 #[.pointer (some ⟨g, 0, none⟩), .int .i64 4] w (RetInts g (tkInts 4 s) w) := by
  have H := Lib.hid (takeInts_any g s w hs hl)
  have lt := hs.lt
  clear hs
  obtain ⟨p, hp⟩ : ∃ p, p = tkR getInts [] s := ⟨_, rfl⟩
  obtain ⟨xs, s'⟩ := p
  by_cases hq : xs.length = 4
  · have HR : Hid (tkInts 4 s = (xs, s')) := Lib.hid (by unfold tkInts; rw [← hp, if_pos hq])
    rw [← hp] at H
    have hq1 : ((xs.length : Int) == 4) = true := by simp [hq]
    have hq2 : ((xs.length : Int) != 4) = false := by simp [hq]
    clear hp hq
    go_enter Tryz.func65, Tryz.ntmps65
    go_wp2_with fail
    refine H.out.mono ?_
    rintro e w' ⟨A, c, rfl, hr, h⟩
    have HQ := Lib.hid hr
    have HH := Lib.hid h
    clear h hr
    simp only
    go_wp2_with fail
    go_ret
    exact ret_ints HR.out rfl HQ.out HH.out
  · have HR : Hid (tkInts 4 s = (List.replicate 4 0, ⟨s'.rest, true⟩)) := Lib.hid (by unfold tkInts; rw [← hp, if_neg hq])
    rw [← hp] at H
    have hq1 : ((xs.length : Int) == 4) = false := by rw [beq_eq_false_iff_ne]; omega
    have hq2 : ((xs.length : Int) != 4) = true := by rw [bne_iff_ne]; omega
    have hmk := mk4
    clear hp hq
    go_enter Tryz.func65, Tryz.ntmps65
    go_wp2_with fail
    refine H.out.mono ?_
    rintro e w' ⟨A, c, rfl, hr, h⟩
    have HH := Lib.hid (h.set1 true)
    have d0 := h.2.c0
    have d1 := h.2.c1
    have e0 := h.2.f0
    have e1 := h.2.f1
    have dlt := h.2.lt
    have hsz : w.heap.size ≤ (w'.setCell ⟨g, 1, none⟩ (.bool true)).heap.size := by have := h.1.size; simpa using this
    have HQ := Lib.hid (stays_new (b := w.heap.size) (k := 1) (n := 4) (cs := intC (List.replicate 4 0)) (T := 3) (w := w'.setCell ⟨g, 1, none⟩ (.bool true)) rfl hsz)
    clear h hr
    simp only
    go_wp2_with fail
    go_ret
    exact ret_ints HR.out rfl (by simpa [intC] using HQ.out) (HH.out.below (below_new _ _))
theorem mk6 (w : World) : (Instr.makeSlice 68 (.int .i64 6) (.int .i64 6)).run Tryz.prog w = .ok (.slice (some ⟨w.heap.size, 0, none⟩) 6 6) (w.alloc (.cells #[.int .i64 0, .int .i64 0, .int .i64 0, .int .i64 0, .int .i64 0, .int .i64 0] 3)) := by kernel_rfl
set_option maxHeartbeats 2000000 in
theorem ints6_any (g : Nat) (s : Sc) (w : World) (hs : Ss w g s) (hl : s.rest.length ≤ 1099511627776) :
    Calls Tryz.prog 65 #[.pointer (some ⟨g, 0, none⟩), .int .i64 6] w (RetInts g (tkInts 6 s) w) := by
  have H := Lib.hid (takeInts_any g s w hs hl)
  have lt := hs.lt
  clear hs
  obtain ⟨p, hp⟩ : ∃ p, p = tkR getInts [] s := ⟨_, rfl⟩
  obtain ⟨xs, s'⟩ := p
  by_cases hq : xs.length = 6
  · have HR : Hid (tkInts 6 s = (xs, s')) := Lib.hid (by unfold tkInts; rw [← hp, if_pos hq])
    rw [← hp] at H
    have hq1 : ((xs.length : Int) == 6) = true := by simp [hq]
    have hq2 : ((xs.length : Int) != 6) = false := by simp [hq]
    clear hp hq
    go_enter Tryz.func65, Tryz.ntmps65
    go_wp2_with fail
    refine H.out.mono ?_
    rintro e w' ⟨A, c, rfl, hr, h⟩
    have HQ := Lib.hid hr
    have HH := Lib.hid h
    clear h hr
    simp only
    go_wp2_with fail
    go_ret
    exact ret_ints HR.out rfl HQ.out HH.out
  · have HR : Hid (tkInts 6 s = (List.replicate 6 0, ⟨s'.rest, true⟩)) := Lib.hid (by unfold tkInts; rw [← hp, if_neg hq])
    rw [← hp] at H
    have hq1 : ((xs.length : Int) == 6) = false := by rw [beq_eq_false_iff_ne]; omega
    have hq2 : ((xs.length : Int) != 6) = true := by rw [bne_iff_ne]; omega
    have hmk := mk6
    clear hp hq
    go_enter Tryz.func65, Tryz.ntmps65
    go_wp2_with fail
    refine H.out.mono ?_
    rintro e w' ⟨A, c, rfl, hr, h⟩
    have HH := Lib.hid (h.set1 true)
    have d0 := h.2.c0
    have d1 := h.2.c1
    have e0 := h.2.f0
    have e1 := h.2.f1
    have dlt := h.2.lt
    have hsz : w.heap.size ≤ (w'.setCell ⟨g, 1, none⟩ (.bool true)).heap.size := by have := h.1.size; simpa using this
    have HQ := Lib.hid (stays_new (b := w.heap.size) (k := 1) (n := 6) (cs := intC (List.replicate 6 0)) (T := 3) (w := w'.setCell ⟨g, 1, none⟩ (.bool true)) rfl hsz)
    clear h hr
    simp only
    go_wp2_with fail
    go_ret
    exact ret_ints HR.out rfl (by simpa [intC] using HQ.out) (HH.out.below (below_new _ _))
end Go.Proofs.YtoehakekjlebdaaGreatDoor
/- The contracts of wire.Reader, seal.Decode, message.signature. -/
namespace Go.Proofs.YtoehakekjlebdaaGreatDoor
open Go.RowKit

/-- a variable of many cells -/
structure Vr (w : World) (b : Nat) (cs : List Value) : Prop where
  lt : b < w.heap.size
  cells : ∀ j v, cs[j]? = some v → w.cell? ⟨b, j, none⟩ = some v
  free : ∀ j, j < cs.length → w.frozen? ⟨b, j, none⟩ = false
theorem Vr.range {w : World} {b : Nat} {cs : List Value} (h : Vr w b cs) : w.rangeAt b 0 cs := fun j v hv => by rw [Nat.zero_add]; exact h.cells j v hv
theorem Vr.there {w : World} {b : Nat} {cs : List Value} (h : Vr w b cs) {n : Nat} (hn : n = cs.length) : w.there b 0 n := fun j hj => by
  subst hn
  rw [Nat.zero_add]
  refine ⟨by rw [h.cells j _ (List.getElem?_eq_getElem hj)]; rfl, h.free j hj⟩
theorem Vr.new (w : World) (cs : List Value) (T : TypeId) : Vr (w.alloc (.cells cs.toArray T)) w.heap.size cs where
  lt := by simp
  cells j v hv := by
    have := cell_new w cs T w.heap.size rfl j v hv
    rw [add_off, Nat.zero_add] at this
    exact this
  free j hj := by simp
theorem Vr.below {w w' : World} {b : Nat} {cs : List Value} (h : Vr w b cs) (hb : Below w.heap.size w w') : Vr w' b cs where
  lt := Nat.lt_of_lt_of_le h.lt hb.size
  cells j v hv := (hb.cell (p := ⟨b, j, none⟩) h.lt).trans (h.cells j v hv)
  free j hj := (hb.frozen (p := ⟨b, j, none⟩) h.lt).trans (h.free j hj)
theorem Vr.grown {w w' : World} {b g : Nat} {cs : List Value} (h : Vr w b cs) (hg : w.grownBy w' (some g)) (hne : b ≠ g) : Vr w' b cs where
  lt := Nat.lt_of_lt_of_le h.lt hg.size
  cells j v hv := (hg.cell_far ⟨b, j, none⟩ h.lt (by simpa using hne)).trans (h.cells j v hv)
  free j hj := (hg.frozen_far ⟨b, j, none⟩ h.lt (by simpa using hne)).trans (h.free j hj)
theorem Vr.set {w : World} {b : Nat} {cs : List Value} (h : Vr w b cs) (i : Nat) (v : Value) : Vr (w.setCell ⟨b, i, none⟩ v) b (cs.set i v) where
  lt := by simpa using h.lt
  cells j u hu := by
    by_cases e : i = j
    · subst e
      have hj : i < cs.length := by
        have := (List.getElem?_eq_some_iff.1 hu).1
        simpa using this
      rw [List.getElem?_set_self hj] at hu
      rw [← hu]
      exact World.cell?_setCell_same _ _ _ (h.cells i _ (List.getElem?_eq_getElem hj))
    · rw [List.getElem?_set_ne e] at hu
      exact (World.cell?_setCell_other _ _ _ _ (by simp [])).trans (h.cells j u hu)
  free j hj := (frz_set _ _ _ _).trans (h.free j (by rw [List.length_set] at hj; exact hj))
theorem grown_sets (w : World) (b : Nat) (vs : List Value) (o : Nat) : w.grownBy (w.setCells b o vs) (some b) := by
  induction vs generalizing o w with
  | nil => exact grown_below (Below.refl _ _) _
  | cons v r ih => exact (grown_set w ⟨b, o, none⟩ v).trans (ih _ _)
theorem Vr.sets {w : World} {b : Nat} {cs : List Value} (h : Vr w b cs) (cs' : List Value) (hl : cs'.length = cs.length) : Vr (w.setCells b 0 cs') b cs' where
  lt := Nat.lt_of_lt_of_le h.lt (grown_sets w b cs' 0).size
  cells j v hv := by
    have := World.rangeAt_setCells_same w b 0 cs' (h.there hl) j v hv
    rwa [Nat.zero_add] at this
  free j hj := by rw [World.frozen?_setCells]; exact h.free j (by omega)
theorem Vr.eq {w : World} {b : Nat} {cs cs' : List Value} (h : Vr w b cs) (e : cs = cs') : Vr w b cs' := e ▸ h
theorem results_mid_slot {P : Program} {fn : Func} {p q : Tmp} {ty : TypeId} (h : fn.results = #[.cell p ty, .tmp q]) (tmps : Array Value) (w : World) (b : Nat) (cs : List Value) (d : TypeDesc) (v : Value)
    (hp : tmps.getD p undef = .pointer (some ⟨b, 0, none⟩)) (hq : tmps.getD q undef = v) (hc : w.rangeAt b 0 cs) (hu : P.underlying ty = some d) (hd : d.isRow = true) (hi : (P.info? ty).map (·.size) = some cs.length) :
    (results fn tmps).run P w = .ok (.tuple #[.agg cs.toArray, v]) w := by
  have hp' : tmps[p]?.getD undef = .pointer (some ⟨b, 0, none⟩) := by simpa using hp
  have hq' : tmps[q]?.getD undef = v := by simpa using hq
  simp [results, h, hp', hq', asAddr, run_loadVar_mid w b 0 ty cs d hc hu hd hi]
theorem results_mid {P : Program} {fn : Func} {p : Tmp} {ty : TypeId} (h : fn.results = #[.cell p ty]) (tmps : Array Value) (w : World) (b : Nat) (cs : List Value) (d : TypeDesc)
    (hp : tmps.getD p undef = .pointer (some ⟨b, 0, none⟩)) (hc : w.rangeAt b 0 cs) (hu : P.underlying ty = some d) (hd : d.isRow = true) (hi : (P.info? ty).map (·.size) = some cs.length) :
    (results fn tmps).run P w = .ok (.agg cs.toArray) w := by
  have hp' : tmps[p]?.getD undef = .pointer (some ⟨b, 0, none⟩) := by simpa using hp
  simp [results, h, hp', asAddr, run_loadVar_mid w b 0 ty cs d hc hu hd hi]
theorem infoSgN (x : Sg) : (Tryz.prog.info? 24).map (·.size) = some (sgC x).length := by
  have : (Tryz.prog.info? 24).map (·.size) = some 6 := by kernel_rfl
  exact this
theorem sgC_one (x : Sg) : (sgC x).toArray.all (·.oneCell') = true := by simp [sgC, Value.oneCell']

/-- a reader's block -/
def Rs (w : World) (g : Nat) (s : Sc) : Prop := ∃ c : Int, decide (c = 0) = !s.bad ∧ Vr w g [.string ⟨s.rest.toArray⟩, .int .i64 c]
def RetRd (g : Nat) (r : List UInt8 × Sc) (w : World) (e : Ending) (w' : World) : Prop := e = .returned (.string ⟨r.1.toArray⟩) ∧ w.grownBy w' (some g) ∧ Rs w' g r.2
theorem ret_rd {g : Nat} {r r' : List UInt8 × Sc} {w w' : World} (h : r = r') (k : w.grownBy w' (some g)) (k2 : Rs w' g r'.2) : RetRd g r w (.returned (.string ⟨r'.1.toArray⟩)) w' := by subst h; exact ⟨rfl, k, k2⟩
theorem Rs.below {w w' : World} {g : Nat} {s : Sc} (h : Rs w g s) (hb : Below w.heap.size w w') : Rs w' g s := by
  obtain ⟨c, hc, hv⟩ := h
  exact ⟨c, hc, hv.below hb⟩
theorem Rs.grown {w w' : World} {g q : Nat} {s : Sc} (h : Rs w g s) (hb : w.grownBy w' (some q)) (hne : g ≠ q) : Rs w' g s := by
  obtain ⟨c, hc, hv⟩ := h
  exact ⟨c, hc, hv.grown hb hne⟩
theorem Rs.lt {w : World} {g : Nat} {s : Sc} (h : Rs w g s) : g < w.heap.size := by
  obtain ⟨c, hc, hv⟩ := h
  exact hv.lt
set_option maxRecDepth 100000 in
set_option maxHeartbeats 2000000 in
theorem newReader_any (s : ByteArray) (w : World) : Calls Tryz.prog 126 #[.string s] w fun e w' => e = .returned (.pointer (some ⟨w.heap.size, 0, none⟩)) ∧ Below w.heap.size w w' ∧ Rs w' w.heap.size ⟨s.data.toList, false⟩ := by
  have HV := Lib.hid (Vr.new w [.string s, .int .i64 0] 183)
  have HB := Lib.hid (below_new w (.cells #[.string s, .int .i64 0] 183))
  go_enter Tryz.func126, Tryz.ntmps126
  go_wp2_with fail
  go_ret
  exact ⟨rfl, HB.out, 0, rfl, HV.out⟩
set_option maxRecDepth 100000 in
set_option maxHeartbeats 2000000 in
theorem readText_any (g : Nat) (s : Sc) (w : World) (hs : Rs w g s) (hl : s.rest.length ≤ 1099511627776) :
    Calls Tryz.prog 142 #[.pointer (some ⟨g, 0, none⟩), .func (.func 103) #[] #[]] w (RetRd g (tkText s) w) := by
  obtain ⟨r, b⟩ := s
  obtain ⟨c, hc, hv⟩ := hs
  have hlen : (ByteArray.mk r.toArray).size ≤ 70368744177664 := by rw [size_mk]; exact Nat.le_trans hl (by decide)
  have c0 := hv.cells 0 _ rfl
  have c1 := hv.cells 1 _ rfl
  have f0 := hv.free 0 (by simp)
  have f1 := hv.free 1 (by simp)
  have lt := hv.lt
  simp only at c0 c1
  have HV := Lib.hid hv
  cases b with
  | true =>
    have hz : ¬ c = 0 := by simpa using hc
    have hc1 : (c == 0) = false := by simpa using hz
    have hc2 : (c != 0) = true := by simpa using hz
    have HC := Lib.hid hc
    have HR : Hid (tkText ⟨r, true⟩ = ([], ⟨r, true⟩)) := Lib.hid rfl
    clear hv hc hz
    go_enter Tryz.func142, Tryz.ntmps142
    go_wp2_with fail
    go_ret
    exact ret_rd HR.out (grown_below (Below.refl _ _) _) ⟨c, HC.out, HV.out⟩
  | false =>
    obtain rfl : c = 0 := by simpa using hc
    clear hv hc
    cases hg : getStr r with
    | none =>
      have HG := Lib.hid (gets_none ⟨r.toArray⟩ w hlen (by simpa using hg))
      have HR : Hid (tkText ⟨r, false⟩ = ([], ⟨r, true⟩)) := Lib.hid (by unfold tkText tkR; simp [hg])
      clear hg
      go_enter Tryz.func142, Tryz.ntmps142
      go_wp2_with fail
      refine HG.out.mono ?_
      rintro e w' ⟨rfl, c, hc, rfl⟩
      have hc1 : (c == 0) = false := by simpa using hc
      have hc2 : (c != 0) = true := by simpa using hc
      go_wp2_with fail
      go_ret
      exact ret_rd HR.out (grown_set _ _ _) ⟨c, by simpa using hc, HV.out.set 1 _⟩
    | some y =>
      obtain ⟨x, k⟩ := y
      have HG := Lib.hid (gets_some ⟨r.toArray⟩ w hlen x k (by simpa using hg))
      have hk := getStr_le hg
      obtain ⟨k0, k1, k2⟩ := hk
      have HR : Hid (tkText ⟨r, false⟩ = (x, ⟨r.drop k, false⟩)) := Lib.hid (by unfold tkText tkR; simp [hg])
      have HX := Lib.hid (ext_list r k k1)
      clear hg
      go_enter Tryz.func142, Tryz.ntmps142
      go_wp2_with fail
      refine HG.out.mono ?_
      rintro e w' ⟨rfl, rfl⟩
      go_wp2_with fail
      go_ret
      exact ret_rd HR.out (grown_set _ _ _) ⟨0, rfl, by have := HV.out.set 0 (.string ((ByteArray.mk r.toArray).extract k r.length)); rw [HX.out] at this ⊢; exact this⟩
set_option maxHeartbeats 2000000 in
theorem rdText_any (g : Nat) (s : Sc) (w : World) (hs : Rs w g s) (hl : s.rest.length ≤ 1099511627776) :
    Calls Tryz.prog 127 #[.pointer (some ⟨g, 0, none⟩)] w (RetRd g (tkText s) w) := by
  have H := Lib.hid (readText_any g s w hs hl)
  clear hs
  go_enter Tryz.func127, Tryz.ntmps127
  go_wp2_with fail
  refine H.out.mono ?_
  rintro e w' ⟨rfl, h⟩
  have HH := Lib.hid h
  clear h
  go_wp2_with fail
  go_ret
  exact ⟨rfl, HH.out⟩
/-- nothing was bad, nothing is left -/
def Sc.fine (s : Sc) : Bool := !s.bad && s.rest.isEmpty
set_option maxRecDepth 100000 in
set_option maxHeartbeats 2000000 in
theorem rdEnd_any (g : Nat) (s : Sc) (w : World) (hs : Rs w g s) :
    Calls Tryz.prog 128 #[.pointer (some ⟨g, 0, none⟩)] w fun e w' => w = w' ∧ ∃ c : Int, decide (c = 0) = s.fine ∧ e = .returned (.int .i64 c) := by
  obtain ⟨r, b⟩ := s
  obtain ⟨c, hc, hv⟩ := hs
  have c0 := hv.cells 0 _ rfl
  have c1 := hv.cells 1 _ rfl
  have lt := hv.lt
  simp only at c0 c1
  clear hv
  cases b with
  | true =>
    have hz : ¬ c = 0 := by simpa using hc
    have hc1 : (c == 0) = false := by simpa using hz
    have hc2 : (c != 0) = true := by simpa using hz
    have HC : Hid (decide (c = 0) = Sc.fine ⟨r, true⟩) := Lib.hid (by simpa [Sc.fine] using hz)
    clear hc hz
    go_enter Tryz.func128, Tryz.ntmps128
    go_wp2_with fail
    go_ret
    exact ⟨rfl, c, HC.out, rfl⟩
  | false =>
    obtain rfl : c = 0 := by simpa using hc
    clear hc
    cases r with
    | nil =>
      go_enter Tryz.func128, Tryz.ntmps128
      go_wp2_with fail
      go_ret
      exact ⟨rfl, 0, rfl, rfl⟩
    | cons x t =>
      go_enter Tryz.func128, Tryz.ntmps128
      go_wp2_with fail
      go_ret
      exact ⟨rfl, 2, rfl, rfl⟩
end Go.Proofs.YtoehakekjlebdaaGreatDoor
/- The contracts of seal.Decode and message.signature. -/
namespace Go.Proofs.YtoehakekjlebdaaGreatDoor
open Go.RowKit

theorem sg_ints_none {s : List UInt8} (h : getInts s = none) : whole rdSg s = none := by
  unfold whole rdSg rdInts off
  rw [h]
theorem sg_ints_len {s : List UInt8} {n : List Int} {k : Nat} (h : getInts s = some (n, k)) (hn : ¬ n.length = 4) : whole rdSg s = none := by
  unfold whole rdSg rdInts off
  rw [h]
  simp only [if_neg hn]
theorem sg_ints {s : List UInt8} {n0 n1 n2 n3 : Int} {k : Nat} (h : getInts s = some ([n0, n1, n2, n3], k)) :
    whole rdSg s = if (tkText (tkText ⟨s.drop k, false⟩).2).2.fine then some ⟨n0, n1, n2, n3, (tkText ⟨s.drop k, false⟩).1, (tkText (tkText ⟨s.drop k, false⟩).2).1⟩ else none := by
  have h1 : rdInts 4 s = some ([n0, n1, n2, n3], s.drop k) := by
    unfold rdInts off
    rw [h]
    rfl
  unfold whole rdSg
  rw [h1]
  simp only
  cases h2 : rdText (s.drop k) with
  | none =>
    have a1 := ag_text.none ⟨s.drop k, false⟩ rfl h2
    have a2 := ag_text.bad _ a1
    simp only [Sc.fine, a2, Bool.not_true, Bool.false_and, Bool.false_eq_true, if_false]
  | some y =>
    obtain ⟨d, r⟩ := y
    have a1 := ag_text.some ⟨s.drop k, false⟩ d r rfl h2
    rw [a1]
    simp only
    cases h3 : rdText r with
    | none =>
      have a2 := ag_text.none ⟨r, false⟩ rfl h3
      simp only [Sc.fine, a2, Bool.not_true, Bool.false_and, Bool.false_eq_true, if_false]
    | some z =>
      obtain ⟨g, q⟩ := z
      have a2 := ag_text.some ⟨r, false⟩ g q rfl h3
      rw [a2]
      cases q with
      | nil => simp [Sc.fine]
      | cons x t => simp [Sc.fine]
/-- a signature or an error comes back -/
def RetSgo (o : Option Sg) (w : World) (e : Ending) (w' : World) : Prop := Below w.heap.size w w' ∧ match o with
  | some x => e = .returned (.tuple #[.agg (sgC x).toArray, .int .i64 0])
  | none => ∃ x : Sg, e = .returned (.tuple #[.agg (sgC x).toArray, .int .i64 2]) ∧ x = sg0
theorem ret_sgo_none {o : Option Sg} {w w' : World} (h : o = none) (hb : Below w.heap.size w w') : RetSgo o w (.returned (.tuple #[.agg (sgC sg0).toArray, .int .i64 2])) w' := by
  subst h; exact ⟨hb, sg0, rfl, rfl⟩
theorem ret_sgo_some {o : Option Sg} {w w' : World} {x : Sg} (h : o = some x) (hb : Below w.heap.size w w') : RetSgo o w (.returned (.tuple #[.agg (sgC x).toArray, .int .i64 0])) w' := by
  subst h; exact ⟨hb, rfl⟩
theorem four_of (n : List Int) (h : n.length = 4) : ∃ a b c d, n = [a, b, c, d] := by
  match n, h with
  | [a, b, c, d], _ => exact ⟨a, b, c, d, rfl⟩
theorem intC_at (n : List Int) (j : Nat) (h : j < n.length) : (intC n)[j]? = some (.int .i64 (n.getD j 0)) := by
  unfold intC
  rw [List.getElem?_map, List.getD_eq_getElem?_getD, List.getElem?_eq_getElem h]
  rfl
theorem retN_len {P : Program} {f : FuncId} {args : Array Value} {l : List UInt8} {w : World} {xs : List Int} {k m : Nat} (h : Calls P f args w (RetN l w)) (hl : getInts l = some (xs, k)) (hm : xs.length = m) :
    Calls P f args w fun e w' => (∃ A c, e = .returned (.tuple #[.slice A m c, .int .i64 k, .int .i64 0]) ∧ w'.ownsRow w.heap.size 3 1 (.slice A m c) m (intC xs)) ∧ Below w.heap.size w w' := by
  subst hm
  exact retN_some h hl
theorem below_al {w w1 : World} (h : Below w.heap.size w w1) (o : Obj) : Below w.heap.size w (w1.alloc o) := h.alloc h.size o
theorem below_vs {w w1 : World} {b : Nat} (h : Below w.heap.size w w1) (hb : w.heap.size ≤ b) (vs : List Value) : Below w.heap.size w (w1.setCells b 0 vs) :=
  below_grown h h.size (grown_sets w1 b vs 0) (fun g hg => by simp only [Option.some.injEq] at hg; omega)
set_option maxRecDepth 100000 in
set_option maxHeartbeats 2000000 in
theorem sealDec_any (s : ByteArray) (w : World) (hs : s.size ≤ 1099511627776) : Calls Tryz.prog 104 #[.string s] w (RetSgo (whole rdSg s.data.toList) w) := by
  have HA : Hid (∀ W, Calls Tryz.prog 101 #[.string s] W (RetN s.data.toList W)) := Lib.hid (fun W => getInts_any s W hs)
  have HV0 := Lib.hid (Vr.new w (sgC sg0) 24)
  have HB0 := Lib.hid (below_new w (.cells (sgC sg0).toArray 24))
  have HBs : Hid (w.heap.size + 1 = (w.alloc (.cells (sgC sg0).toArray 24)).heap.size) := Lib.hid (by simp)
  cases hg : getInts s.data.toList with
  | none =>
    have HR := Lib.hid (sg_ints_none hg)
    have HG : Hid (getInts s.data.toList = none) := Lib.hid hg
    clear hg
    go_enter Tryz.func104, Tryz.ntmps104
    go_wp2_with fail
    refine (retN_none (HA.out _) HG.out).mono ?_
    rintro e w1 ⟨⟨c, hc, rfl⟩, hb⟩
    have hc1 : (c == 0) = false := by simpa using hc
    have hc2 : (c != 0) = true := by simpa using hc
    have HV1 := Lib.hid (HV0.out.below hb)
    have HB1 := Lib.hid (bon HB0.out hb)
    clear hb
    go_wp2_with (refine wpList_store_mid rfl 24 _ _ rfl w.heap.size 0 (sgC sg0).toArray rfl rfl (HV1.out.there rfl) (infoSgN sg0) (sgC_one sg0) ?_)
    refine bodyPost_ret (v := .tuple #[.agg (sgC sg0).toArray, .int .i64 2]) ?_ rfl (ret_sgo_none HR.out (below_vs HB1.out (Nat.le_refl _) _))
    exact results_mid_slot Tryz.results104 _ _ w.heap.size (sgC sg0) _ _ rfl rfl (HV1.out.sets (sgC sg0) rfl).range Tryz.underlying24 rfl (infoSgN sg0)
  | some y =>
    obtain ⟨n, k⟩ := y
    have HG : Hid (getInts s.data.toList = some (n, k)) := Lib.hid hg
    have hk := getInts_leW hg
    by_cases hn : n.length = 4
    · obtain ⟨n0, n1, n2, n3, rfl⟩ := four_of n hn
      have HR := Lib.hid (sg_ints hg)
      have HN := Lib.hid hn
      have hkl : k ≤ s.size := by rwa [len_data] at hk
      clear hg hn hk
      go_enter Tryz.func104, Tryz.ntmps104
      go_wp2_with fail
      refine (retN_len (HA.out _) HG.out HN.out).mono ?_
      rintro e w1 ⟨⟨A, c, rfl, hr⟩, hb⟩
      have HV1 := Lib.hid (HV0.out.below hb)
      have HB1 := Lib.hid (bon HB0.out hb)
      have HRow := Lib.hid (stays_row hr (Nat.le_refl _))
      clear hb hr
      go_wp2_with fail
      refine (newReader_any _ _).mono ?_
      rintro e w2 ⟨rfl, hb, hrs⟩
      have HV2 := Lib.hid (HV1.out.below hb)
      have HB2 := Lib.hid (bon HB1.out hb)
      have HRow2 := Lib.hid (HRow.out.on (keeps_below _ hb))
      rw [ext_end s k hkl] at hrs
      have HRs := Lib.hid hrs
      clear hb hrs
      obtain ⟨gb, go, rfl, hgl, hgc⟩ := HRow2.out.out.cells (by simp [intC])
      have HC : Hid (∀ W, Below w2.heap.size w2 W → Below w2.heap.size w2 W ∧ W.cell? ⟨gb, go, none⟩ = some (.int .i64 n0) ∧ W.cell? ⟨gb, go + 1, none⟩ = some (.int .i64 n1) ∧ W.cell? ⟨gb, go + 2, none⟩ = some (.int .i64 n2) ∧ W.cell? ⟨gb, go + 3, none⟩ = some (.int .i64 n3)) :=
        Lib.hid (fun W hW => by
          have h9 : ∀ j v, (intC [n0, n1, n2, n3])[j]? = some v → W.cell? ⟨gb, go + j, none⟩ = some v := fun j v hv => (hW.cell (p := ⟨gb, go + j, none⟩) hgl).trans (hgc j v hv)
          exact ⟨hW, h9 0 _ rfl, h9 1 _ rfl, h9 2 _ rfl, h9 3 _ rfl⟩)
      have HV3 := Lib.hid (HV2.out.below ((below_new w2 (.cells (sgC ⟨n0, n1, n2, n3, [], []⟩).toArray 24)).drew))
      have HX3 := Lib.hid ((Vr.new w2 (sgC ⟨n0, n1, n2, n3, [], []⟩) 24).below (Below.refl _ _).drew)
      have HB3 := Lib.hid (bon HB2.out (below_new w2 (.cells (sgC ⟨n0, n1, n2, n3, [], []⟩).toArray 24)).drew)
      have HRs3 := Lib.hid (HRs.out.below (below_new w2 (.cells (sgC ⟨n0, n1, n2, n3, [], []⟩).toArray 24)).drew)
      have hne1 : w.heap.size < w1.heap.size := HV1.out.lt
      have hne2 : w1.heap.size < w2.heap.size := HRs.out.lt
      have hdl : (List.drop k s.data.toList).length ≤ 1099511627776 := by rw [List.length_drop, len_data]; omega
      have HDL := Lib.hid hdl
      clear hdl
      have HQ0 := Lib.hid ((Below.refl w2.heap.size w2).drew)
      clear hgl hgc
      go_wp2_with fail
      go_region_held3 (fun W => Below w2.heap.size w2 W ∧ W.cell? ⟨gb, go, none⟩ = some (.int .i64 n0) ∧ W.cell? ⟨gb, go + 1, none⟩ = some (.int .i64 n1) ∧ W.cell? ⟨gb, go + 2, none⟩ = some (.int .i64 n2) ∧ W.cell? ⟨gb, go + 3, none⟩ = some (.int .i64 n3))
        (first | exact HC.out _ HQ0.out | exact HC.out _ (below_al (Below.refl _ _) _).drew | exact HC.out _ (below_al (‹Below _ _ _ ∧ _›).1 _))
        (fail)
      go_wp2_with fail
      refine (rdText_any w1.heap.size ⟨List.drop k s.data.toList, false⟩ _ HRs3.out HDL.out).mono ?_
      rintro e w4 ⟨rfl, hgr, hrs⟩
      have HV4 := Lib.hid (HV3.out.grown hgr (by omega))
      have HX4 := Lib.hid (HX3.out.grown hgr (by omega))
      have HB4 : Hid (Below w.heap.size w w4) := Lib.hid (below_grown HB3.out HB3.out.size hgr (fun g hg => by simp only [Option.some.injEq] at hg; omega))
      obtain ⟨p, hp⟩ : ∃ p, p = tkText ⟨List.drop k s.data.toList, false⟩ := ⟨_, rfl⟩
      have HRs4 := Lib.hid hrs
      have HP := Lib.hid hp
      have c4 := HX4.out.cells 4 _ rfl
      have f4 := HX4.out.free 4 (by simp [sgC])
      have l4 := HX4.out.lt
      have HDL4 : Hid (p.2.rest.length ≤ 1099511627776) := Lib.hid (by rw [hp]; exact Nat.le_trans (ag_text.len _) HDL.out)
      rw [← hp] at HRs4 ⊢
      clear hgr hrs hp
      go_wp2_with fail
      refine (rdText_any w1.heap.size p.2 _ (HRs4.out.grown (grown_set _ _ _) (by simp; omega)) HDL4.out).mono ?_
      rintro e w5 ⟨rfl, hgr, hrs⟩
      have HV5 := Lib.hid ((HV4.out.grown (grown_set _ ⟨w2.heap.size, 4, none⟩ (.string ⟨p.1.toArray⟩)) (by simp; omega)).grown hgr (by omega))
      have HX5 := Lib.hid ((HX4.out.set 4 (.string ⟨p.1.toArray⟩)).grown hgr (by omega))
      have HB5 : Hid (Below w.heap.size w w5) := Lib.hid (below_grown (below_grown HB4.out HB4.out.size (grown_set _ ⟨w2.heap.size, 4, none⟩ (.string ⟨p.1.toArray⟩)) (fun g hg => by simp only [Option.some.injEq] at hg; omega)) (by have := HB4.out.size; simpa using this) hgr (fun g hg => by simp only [Option.some.injEq] at hg; omega))
      obtain ⟨q, hq⟩ : ∃ q, q = tkText p.2 := ⟨_, rfl⟩
      have HRs5 := Lib.hid hrs
      have HQ := Lib.hid hq
      clear c4 f4 l4
      have c5 := HX5.out.cells 5 _ rfl
      have f5 := HX5.out.free 5 (by simp [sgC])
      have l5 := HX5.out.lt
      rw [← hq] at HRs5 ⊢
      clear hgr hrs hq
      go_wp2_with fail
      refine (rdEnd_any w1.heap.size q.2 _ (HRs5.out.grown (grown_set _ _ _) (by simp; omega))).mono ?_
      rintro e w6 ⟨rfl, ce, hce, rfl⟩
      have HV6 := Lib.hid (HV5.out.grown (grown_set _ ⟨w2.heap.size, 5, none⟩ (.string ⟨q.1.toArray⟩)) (by simp; omega))
      have HX6 : Hid (Vr (w5.setCell ⟨w2.heap.size, 5, none⟩ (.string ⟨q.1.toArray⟩)) w2.heap.size (sgC ⟨n0, n1, n2, n3, p.1, q.1⟩)) := Lib.hid (HX5.out.set 5 (.string ⟨q.1.toArray⟩))
      have HB6 : Hid (Below w.heap.size w (w5.setCell ⟨w2.heap.size, 5, none⟩ (.string ⟨q.1.toArray⟩))) := Lib.hid (below_grown HB5.out HB5.out.size (grown_set _ ⟨w2.heap.size, 5, none⟩ (.string ⟨q.1.toArray⟩)) (fun g hg => by simp only [Option.some.injEq] at hg; omega))
      have HSp : Hid (whole rdSg s.data.toList = if q.2.fine then some ⟨n0, n1, n2, n3, p.1, q.1⟩ else none) := Lib.hid (by rw [HR.out, HQ.out, HP.out])
      clear c5 f5 l5
      cases hfine : q.2.fine with
      | true =>
        rw [hfine] at hce
        obtain rfl : ce = 0 := by simpa using hce
        have HY : Hid (whole rdSg s.data.toList = some ⟨n0, n1, n2, n3, p.1, q.1⟩) := Lib.hid (by rw [HSp.out, hfine]; rfl)
        clear hfine hce
        go_wp2_with (first
          | (refine wpList_load_mid rfl 24 _ rfl w2.heap.size 0 rfl (sgC ⟨n0, n1, n2, n3, p.1, q.1⟩) _ HX6.out.range Tryz.underlying24 rfl (infoSgN _) ?_)
          | (refine wpList_store_mid rfl 24 _ _ rfl w.heap.size 0 (sgC ⟨n0, n1, n2, n3, p.1, q.1⟩).toArray rfl rfl (HV6.out.there rfl) (infoSgN ⟨n0, n1, n2, n3, p.1, q.1⟩) (sgC_one _) ?_))
        refine bodyPost_ret (v := .tuple #[.agg (sgC ⟨n0, n1, n2, n3, p.1, q.1⟩).toArray, .int .i64 0]) ?_ rfl (ret_sgo_some HY.out (below_vs HB6.out (Nat.le_refl _) _))
        exact results_mid_slot Tryz.results104 _ _ w.heap.size (sgC ⟨n0, n1, n2, n3, p.1, q.1⟩) _ _ rfl rfl (HV6.out.sets (sgC ⟨n0, n1, n2, n3, p.1, q.1⟩) rfl).range Tryz.underlying24 rfl (infoSgN ⟨n0, n1, n2, n3, p.1, q.1⟩)
      | false =>
        rw [hfine] at hce
        have hz : ¬ ce = 0 := by simpa using hce
        have hc1 : (ce == 0) = false := by simpa using hz
        have hc2 : (ce != 0) = true := by simpa using hz
        have HY : Hid (whole rdSg s.data.toList = none) := Lib.hid (by rw [HSp.out, hfine]; rfl)
        clear hfine hce hz
        go_wp2_with (refine wpList_store_mid rfl 24 _ _ rfl w.heap.size 0 (sgC sg0).toArray rfl rfl (HV6.out.there rfl) (infoSgN sg0) (sgC_one sg0) ?_)
        refine bodyPost_ret (v := .tuple #[.agg (sgC sg0).toArray, .int .i64 2]) ?_ rfl (ret_sgo_none HY.out (below_vs HB6.out (Nat.le_refl _) _))
        exact results_mid_slot Tryz.results104 _ _ w.heap.size (sgC sg0) _ _ rfl rfl (HV6.out.sets (sgC sg0) rfl).range Tryz.underlying24 rfl (infoSgN sg0)
    · have HR := Lib.hid (sg_ints_len hg hn)
      have hn1 : ((n.length : Int) == 4) = false := by rw [beq_eq_false_iff_ne]; omega
      have hn2 : ((n.length : Int) != 4) = true := by rw [bne_iff_ne]; omega
      clear hg hn hk
      go_enter Tryz.func104, Tryz.ntmps104
      go_wp2_with fail
      refine (retN_some (HA.out _) HG.out).mono ?_
      rintro e w1 ⟨⟨A, c, rfl, hr⟩, hb⟩
      have HV1 := Lib.hid (HV0.out.below hb)
      have HB1 := Lib.hid (bon HB0.out hb)
      clear hb hr
      go_wp2_with (refine wpList_store_mid rfl 24 _ _ rfl w.heap.size 0 (sgC sg0).toArray rfl rfl (HV1.out.there rfl) (infoSgN sg0) (sgC_one sg0) ?_)
      refine bodyPost_ret (v := .tuple #[.agg (sgC sg0).toArray, .int .i64 2]) ?_ rfl (ret_sgo_none HR.out (below_vs HB1.out (Nat.le_refl _) _))
      exact results_mid_slot Tryz.results104 _ _ w.heap.size (sgC sg0) _ _ rfl rfl (HV1.out.sets (sgC sg0) rfl).range Tryz.underlying24 rfl (infoSgN sg0)
theorem RetSgo.cases {o : Option Sg} {w w' : World} {e : Ending} (h : RetSgo o w e w') : Below w.heap.size w w' ∧ ((∃ x, o = some x ∧ e = .returned (.tuple #[.agg (sgC x).toArray, .int .i64 0])) ∨ (o = none ∧ e = .returned (.tuple #[.agg (sgC sg0).toArray, .int .i64 2]))) := by
  refine ⟨h.1, ?_⟩
  cases o with
  | none =>
    obtain ⟨x, he, hx⟩ := h.2
    subst hx
    exact .inr ⟨rfl, he⟩
  | some x => exact .inl ⟨x, rfl, h.2⟩
theorem sgo_some {P : Program} {f : FuncId} {args : Array Value} {o : Option Sg} {w : World} {x : Sg} (h : Calls P f args w (RetSgo o w)) (ho : o = some x) :
    Calls P f args w fun e w' => e = .returned (.tuple #[.agg #[.int .i64 x.server, .int .i64 x.kind, .int .i64 x.view, .int .i64 x.slot, .string ⟨x.digest.toArray⟩, .string ⟨x.sig.toArray⟩], .int .i64 0]) ∧ Below w.heap.size w w' :=
  h.mono fun _ _ hh => by
    subst ho
    exact ⟨hh.2, hh.1⟩
theorem sgo_none {P : Program} {f : FuncId} {args : Array Value} {o : Option Sg} {w : World} (h : Calls P f args w (RetSgo o w)) (ho : o = none) :
    Calls P f args w fun e w' => e = .returned (.tuple #[.agg #[.int .i64 0, .int .i64 0, .int .i64 0, .int .i64 0, .string ⟨#[]⟩, .string ⟨#[]⟩], .int .i64 2]) ∧ Below w.heap.size w w' :=
  h.mono fun _ _ hh => by
    subst ho
    obtain ⟨x, he, hx⟩ := hh.2
    subst hx
    exact ⟨he, hh.1⟩
/-- a signature comes back from a source -/
def RetSg (g : Nat) (r : Sg × Sc) (w : World) (e : Ending) (w' : World) : Prop := e = .returned (.agg (sgC r.1).toArray) ∧ SsTo w g r.2 w'
theorem ret_sg {g : Nat} {r r' : Sg × Sc} {w w' : World} (h : r = r') (k : SsTo w g r'.2 w') : RetSg g r w (.returned (.agg (sgC r'.1).toArray)) w' := by subst h; exact ⟨rfl, k⟩
theorem SsTo.alloc {w w1 : World} {g : Nat} {s : Sc} (h : SsTo w g s w1) (x : Obj) : SsTo w g s (w1.alloc x) := h.below (below_new _ _)
theorem Ss.grown {w w' : World} {g b : Nat} {s : Sc} (h : Ss w g s) (hg : w.grownBy w' (some b)) (hne : g ≠ b) : Ss w' g s where
  lt := Nat.lt_of_lt_of_le h.lt hg.size
  c0 := (hg.cell_far ⟨g, 0, none⟩ h.lt (by simpa using hne)).trans h.c0
  c1 := (hg.cell_far ⟨g, 1, none⟩ h.lt (by simpa using hne)).trans h.c1
  f0 := (hg.frozen_far ⟨g, 0, none⟩ h.lt (by simpa using hne)).trans h.f0
  f1 := (hg.frozen_far ⟨g, 1, none⟩ h.lt (by simpa using hne)).trans h.f1
/-- a block of the call's own has turned -/
theorem grown_own {w w1 w2 : World} {g b : Nat} (h : w.grownBy w1 (some g)) (k : w1.grownBy w2 (some b)) (hb : w.heap.size ≤ b) : w.grownBy w2 (some g) :=
  ⟨k.os.trans h.os, k.tape.trans h.tape, k.output.trans h.output, Nat.le_trans h.size k.size, fun i hi hne => (k.block i (Nat.lt_of_lt_of_le hi h.size) (fun e => by simp only [Option.some.injEq] at e; omega)).trans (h.block i hi hne)⟩
theorem SsTo.own {w w1 w2 : World} {g b : Nat} {s : Sc} (h : SsTo w g s w1) (k : w1.grownBy w2 (some b)) (hb : w.heap.size ≤ b) (hne : g ≠ b) : SsTo w g s w2 :=
  ⟨grown_own h.1 k hb, h.2.grown k hne⟩
theorem grown_vs {w : World} {b : Nat} (vs : List Value) : w.grownBy (w.setCells b 0 vs) (some b) := grown_sets w b vs 0
set_option maxRecDepth 100000 in
set_option maxHeartbeats 1000000 in
theorem signature_any (g : Nat) (s : Sc) (w : World) (hs : Ss w g s) (hl : s.rest.length ≤ 1099511627776) :
    Calls Tryz.prog 68 #[.pointer (some ⟨g, 0, none⟩)] w (RetSg g (tkSg s) w) := by
  obtain ⟨r, b⟩ := s
  have hlen : (ByteArray.mk r.toArray).size ≤ 1099511627776 := by rw [size_mk]; exact hl
  have HV0 := Lib.hid (Vr.new w (sgC sg0) 24)
  have HS0 := Lib.hid ((SsTo.refl hs).alloc (.cells (sgC sg0).toArray 24))
  have hgl := hs.lt
  have HD := Lib.hid (sealDec_any ⟨r.toArray⟩ (w.alloc (.cells (sgC sg0).toArray 24)) hlen)
  have c0 := hs.c0
  simp only at c0
  clear hs
  have fin : ∀ (x : Sg) (b' : Bool) (w1 : World), tkSg ⟨r, b⟩ = (x, ⟨[], b'⟩) → Below (w.alloc (.cells (sgC sg0).toArray 24)).heap.size (w.alloc (.cells (sgC sg0).toArray 24)) w1 →
      Hid (Vr w1 w.heap.size (sgC sg0)) ∧ Hid (SsTo w g ⟨r, b⟩ w1) := fun x b' w1 h hb => ⟨Lib.hid (HV0.out.below hb), Lib.hid (HS0.out.below hb)⟩
  cases hw : whole rdSg r with
  | none =>
    have HG := Lib.hid (sgo_none HD.out (by simpa using hw))
    have HR : Hid (tkSg ⟨r, b⟩ = (sg0, ⟨[], true⟩)) := Lib.hid (by unfold tkSg; simp only [hw])
    clear hw HD
    go_enter Tryz.func68, Tryz.ntmps68
    go_wp2_with fail
    refine HG.out.mono ?_
    rintro e w1 ⟨rfl, hb⟩
    obtain ⟨HV1, HS1⟩ := fin sg0 true w1 HR.out hb
    clear fin hb c0
    have hne1 : w.heap.size < w1.heap.size := HV1.out.lt
    have HV2 := Lib.hid (HV1.out.below (below_new w1 (.cells (sgC sg0).toArray 24)))
    have HX2 := Lib.hid (Vr.new w1 (sgC sg0) 24)
    have HS2 := Lib.hid (HS1.out.alloc (.cells (sgC sg0).toArray 24))
    go_upto_region 2 with fail
    generalize hw2 : w1.alloc (.cells (sgC sg0).toArray 24) = w2 at HV2 HX2 HS2
    have e2 : w1.alloc (.cells #[.int .i64 0, .int .i64 0, .int .i64 0, .int .i64 0, .string ⟨#[]⟩, .string ⟨#[]⟩] 24) = w2 := hw2
    rw [e2]
    clear e2 hw2
    have d1 := HS2.out.2.c1
    have e0 := HS2.out.2.f0
    have e1 := HS2.out.2.f1
    have dl := HS2.out.2.lt
    simp only at d1
    have d0 := HS2.out.2.c0
    simp only at d0
    have HZ : Hid (SsTo w g ⟨[], true⟩ ((w2.setCell ⟨g, 1, none⟩ (.bool true)).setCell ⟨g, 0, none⟩ (.string ⟨#[]⟩))) := Lib.hid ((HS2.out.set1 true).set0 [])
    have HVz := Lib.hid ((HV2.out.grown (grown_set w2 ⟨g, 1, none⟩ (.bool true)) (by show w.heap.size ≠ g; omega)).grown (grown_set _ ⟨g, 0, none⟩ (.string ⟨#[]⟩)) (by show w.heap.size ≠ g; omega))
    have HXz := Lib.hid ((HX2.out.grown (grown_set w2 ⟨g, 1, none⟩ (.bool true)) (by show w1.heap.size ≠ g; omega)).grown (grown_set _ ⟨g, 0, none⟩ (.string ⟨#[]⟩)) (by show w1.heap.size ≠ g; omega))
    cases b
    all_goals
      go_wp2_with (first
        | (refine wpList_load_mid rfl 24 _ rfl w1.heap.size 0 rfl (sgC sg0) _ HXz.out.range Tryz.underlying24 rfl (infoSgN _) ?_)
        | (refine wpList_store_mid rfl 24 _ _ rfl w.heap.size 0 (sgC sg0).toArray rfl rfl (HVz.out.there rfl) (infoSgN sg0) (sgC_one _) ?_))
      refine bodyPost_ret (v := .agg (sgC sg0).toArray) ?_ rfl (ret_sg HR.out (HZ.out.own (grown_vs (b := w.heap.size) (sgC sg0)) (Nat.le_refl _) (by omega)))
      exact results_mid Tryz.results68 _ _ w.heap.size (sgC sg0) _ rfl (HVz.out.sets (sgC sg0) rfl).range Tryz.underlying24 rfl (infoSgN sg0)
  | some x =>
    have HG := Lib.hid (sgo_some HD.out (by simpa using hw))
    have HR : Hid (tkSg ⟨r, b⟩ = (x, ⟨[], b⟩)) := Lib.hid (by unfold tkSg; simp only [hw])
    clear hw HD
    go_enter Tryz.func68, Tryz.ntmps68
    go_wp2_with fail
    refine HG.out.mono ?_
    rintro e w1 ⟨rfl, hb⟩
    obtain ⟨HV1, HS1⟩ := fin x b w1 HR.out hb
    clear fin hb c0
    have hne1 : w.heap.size < w1.heap.size := HV1.out.lt
    have HV2 := Lib.hid (HV1.out.below (below_new w1 (.cells (sgC x).toArray 24)))
    have HX2 := Lib.hid (Vr.new w1 (sgC x) 24)
    have HS2 := Lib.hid (HS1.out.alloc (.cells (sgC x).toArray 24))
    go_upto_region 2 with fail
    generalize hw2 : w1.alloc (.cells (sgC x).toArray 24) = w2 at HV2 HX2 HS2
    have e2 : w1.alloc (.cells #[.int .i64 x.server, .int .i64 x.kind, .int .i64 x.view, .int .i64 x.slot, .string ⟨x.digest.toArray⟩, .string ⟨x.sig.toArray⟩] 24) = w2 := hw2
    rw [e2]
    clear e2 hw2
    have d1 := HS2.out.2.c1
    have e0 := HS2.out.2.f0
    have e1 := HS2.out.2.f1
    have dl := HS2.out.2.lt
    simp only at d1
    have d0 := HS2.out.2.c0
    simp only at d0
    have HZ : Hid (SsTo w g ⟨[], b⟩ ((w2.setCell ⟨g, 1, none⟩ (.bool b)).setCell ⟨g, 0, none⟩ (.string ⟨#[]⟩))) := Lib.hid ((HS2.out.set1 b).set0 [])
    have HVz := Lib.hid ((HV2.out.grown (grown_set w2 ⟨g, 1, none⟩ (.bool b)) (by show w.heap.size ≠ g; omega)).grown (grown_set _ ⟨g, 0, none⟩ (.string ⟨#[]⟩)) (by show w.heap.size ≠ g; omega))
    have HXz := Lib.hid ((HX2.out.grown (grown_set w2 ⟨g, 1, none⟩ (.bool b)) (by show w1.heap.size ≠ g; omega)).grown (grown_set _ ⟨g, 0, none⟩ (.string ⟨#[]⟩)) (by show w1.heap.size ≠ g; omega))
    cases b
    all_goals
      go_wp2_with (first
        | (refine wpList_load_mid rfl 24 _ rfl w1.heap.size 0 rfl (sgC x) _ HXz.out.range Tryz.underlying24 rfl (infoSgN _) ?_)
        | (refine wpList_store_mid rfl 24 _ _ rfl w.heap.size 0 (sgC x).toArray rfl rfl (HVz.out.there rfl) (infoSgN x) (sgC_one _) ?_))
      refine bodyPost_ret (v := .agg (sgC x).toArray) ?_ rfl (ret_sg HR.out (HZ.out.own (grown_vs (b := w.heap.size) (sgC x)) (Nat.le_refl _) (by omega)))
      exact results_mid Tryz.results68 _ _ w.heap.size (sgC x) _ rfl (HVz.out.sets (sgC x) rfl).range Tryz.underlying24 rfl (infoSgN x)
end Go.Proofs.YtoehakekjlebdaaGreatDoor
/- What comes back from a source, in general; what stands while other memory turns. -/
namespace Go.Proofs.YtoehakekjlebdaaGreatDoor
open Go.RowKit

/-- what holds as long as the blocks of F stand -/
def Foot (F : Nat → Prop) (P : World → Prop) (w : World) : Prop := ∀ w', w.heap.size ≤ w'.heap.size → (∀ k, F k → w'.heap[k]? = w.heap[k]?) → P w'
theorem Foot.out {F : Nat → Prop} {P : World → Prop} {w : World} (h : Foot F P w) : P w := h w (Nat.le_refl _) (fun _ _ => rfl)
theorem Foot.on {F : Nat → Prop} {P : World → Prop} {w w1 : World} (h : Foot F P w) (hs : w.heap.size ≤ w1.heap.size) (hk : ∀ k, F k → w1.heap[k]? = w.heap[k]?) : Foot F P w1 :=
  fun w' h1 h2 => h w' (Nat.le_trans hs h1) (fun k hF => (h2 k hF).trans (hk k hF))
theorem Foot.mono {F F' : Nat → Prop} {P : World → Prop} {w : World} (h : Foot F P w) (hF : ∀ k, F k → F' k) : Foot F' P w := fun w' h1 h2 => h w' h1 (fun k hk => h2 k (hF k hk))
theorem Foot.imp2 {F : Nat → Prop} {P Q R : World → Prop} {w : World} (h : Foot F P w) (k : Foot F Q w) (hi : ∀ w', P w' → Q w' → R w') : Foot F R w := fun w' h1 h2 => hi w' (h w' h1 h2) (k w' h1 h2)
theorem foot_stays {b : Nat} {P : World → Prop} {w : World} (h : Stays b P w) : Foot (fun k => b ≤ k ∧ k < w.heap.size) P w := fun w' h1 h2 => h w' ⟨h1, fun k hb hk => h2 k ⟨hb, hk⟩⟩
theorem stays_foot {b : Nat} {F : Nat → Prop} {P : World → Prop} {w : World} (h : Foot F P w) (hF : ∀ k, F k → b ≤ k ∧ k < w.heap.size) : Stays b P w := fun w' hw => h w' hw.1 (fun k hk => hw.2 k (hF k hk).1 (hF k hk).2)

/-- a struct comes back from a source -/
def RetX {α : Type} (C : α → List Value) (er : α → α) (ok : α → World → Prop) (g : Nat) (r : α × Sc) (w : World) (e : Ending) (w' : World) : Prop :=
  ∃ x, e = .returned (.agg (C x).toArray) ∧ er x = r.1 ∧ Stays w.heap.size (ok x) w' ∧ SsTo w g r.2 w'
theorem ret_x {α : Type} {C : α → List Value} {er : α → α} {ok : α → World → Prop} {g : Nat} {r r' : α × Sc} {w w' : World} {e : Ending} {x : α} (h : r = r') (he : e = .returned (.agg (C x).toArray)) (hx : er x = r'.1) (hst : Stays w.heap.size (ok x) w') (hs : SsTo w g r'.2 w') : RetX C er ok g r w e w' := by
  subst h; exact ⟨x, he, hx, hst, hs⟩
/-- a list of structs comes back from a source -/
def RetXs {α : Type} (k : Nat) (C : α → List Value) (er : α → α) (ok : α → World → Prop) (g : Nat) (r : List α × Sc) (w : World) (e : Ending) (w' : World) : Prop :=
  ∃ x : Sl α, e = .returned (.slice x.a x.l.length x.c) ∧ x.l.map er = r.1 ∧ Stays w.heap.size (fun w => x.rd k C w ∧ ∀ y ∈ x.l, ok y w) w' ∧ SsTo w g r.2 w'
theorem Ss.new' (w : World) (r : List UInt8) (b : Bool) (T : TypeId) {g : Nat} (hg : g = w.heap.size) : Ss (w.alloc (.cells #[.string ⟨r.toArray⟩, .bool b] T)) g ⟨r, b⟩ := hg ▸ Ss.new w r b T
theorem Vr.new' (w : World) (cs : List Value) (T : TypeId) {b : Nat} (hb : b = w.heap.size) : Vr (w.alloc (.cells cs.toArray T)) b cs := hb ▸ Vr.new w cs T
theorem signature_x (g : Nat) (s : Sc) (w : World) (hs : Ss w g s) (hl : s.rest.length ≤ 1099511627776) :
    Calls Tryz.prog 68 #[.pointer (some ⟨g, 0, none⟩)] w (RetX sgC id (fun x _ => x.ok) g (tkSg s) w) :=
  (signature_any g s w hs hl).mono fun _ _ ⟨he, hw⟩ => ⟨_, he, rfl, stays_const (tkSg_ok s), hw⟩

/-- the state of a loop that reads a list of parts: so many have been read -/
structure PtSt {α : Type} (T k : Nat) (C : α → List Value) (er : α → α) (ok : α → World → Prop) (tk : Sc → α × Sc) (w : World) (B g : Nat) (A : Option Addr) (l : List (List UInt8)) (s1 : Sc) (j : Nat) (o : Value) (xs : List α) (sj : Sc) (F : Nat → Prop) (wr : World) : Prop where
  len : xs.length = j
  own : wr.ownsRow B T k o j (xs.flatMap C)
  src : SsTo w g sj wr
  size : B ≤ wr.heap.size
  foot : Foot F (fun W => Rd W 1 A l.length (strC l) ∧ ∀ y ∈ xs, ok y W) wr
  fin : ∀ i, F i → w.heap.size ≤ i ∧ i < wr.heap.size ∧ o.ownBlock ≠ some i
  all : tkAll tk l s1 = (xs.map er ++ (tkAll tk (l.drop j) sj).1, (tkAll tk (l.drop j) sj).2)
theorem PtSt.start {α : Type} {T k : Nat} {C : α → List Value} {er : α → α} {ok : α → World → Prop} {tk : Sc → α × Sc} {w w1 : World} {g : Nat} {A : Option Addr} {l : List (List UInt8)} {s1 : Sc}
    (hr : Stays w.heap.size (fun w => Rd w 1 A l.length (strC l)) w1) (h : SsTo w g s1 w1) : PtSt T k C er ok tk w w1.heap.size g A l s1 0 (.slice none 0 0) [] s1 (fun i => w.heap.size ≤ i ∧ i < w1.heap.size) w1 where
  len := rfl
  own := World.ownsRow_nil _ _ _ _
  src := h
  size := Nat.le_refl _
  foot := (foot_stays hr).imp2 (foot_stays hr) (fun w' h _ => ⟨h, by simp⟩)
  fin i hi := ⟨hi.1, hi.2, by simp [Value.ownBlock]⟩
  all := by simp
/-- behind the call of part the row stands -/
theorem PtSt.row {α : Type} {T k : Nat} {C : α → List Value} {er : α → α} {ok : α → World → Prop} {tk : Sc → α × Sc} {w wr w2 : World} {B g : Nat} {A : Option Addr} {l : List (List UInt8)} {s1 s2 : Sc} {j : Nat} {o : Value} {xs : List α} {sj : Sc} {F : Nat → Prop}
    (h : PtSt T k C er ok tk w B g A l s1 j o xs sj F wr) (hg : g < B) (hs : SsTo wr g s2 w2) : w2.ownsRow B T k o j (xs.flatMap C) :=
  h.own.kept hs.1 (by
    cases ho : o.ownBlock with
    | none => exact .inl rfl
    | some b =>
      have := (h.own.lt b ho).1
      exact .inr (fun e => by simp only [Option.some.injEq] at e; omega))
theorem PtSt.step {α : Type} {T k : Nat} {C : α → List Value} {er : α → α} {ok : α → World → Prop} {tk : Sc → α × Sc} {w wr w2 w3 w4 : World} {B g : Nat} {A : Option Addr} {l : List (List UInt8)} {s1 : Sc} {j : Nat} {o v' : Value} {xs : List α} {sj : Sc} {F : Nat → Prop} {x : α}
    (h : PtSt T k C er ok tk w B g A l s1 j o xs sj F wr) (hw : g < w.heap.size) (hB : w.heap.size ≤ B) (hj : j < l.length) (hx : er x = (tkPart tk l[j] sj).1) (hst : Stays wr.heap.size (ok x) w2) (hs : SsTo wr g (tkPart tk l[j] sj).2 w2)
    (h3 : Below w2.heap.size w2 w3) (hz : w3.heap.size = w2.heap.size + 1) (hown : w4.ownsRow B T k v' (j + 1) (xs.flatMap C ++ C x)) (hgr : w3.grownBy w4 o.ownBlock) (hat : v'.ownBlock = o.ownBlock ∨ v'.ownBlock = some (w2.heap.size + 1)) :
    PtSt T k C er ok tk w B g A l s1 (j + 1) v' (xs ++ [x]) (tkPart tk l[j] sj).2 (fun i => F i ∨ (wr.heap.size ≤ i ∧ i < w2.heap.size)) w4 := by
  have z1 := hs.1.size
  have z2 := hgr.size
  have z3 := h.size
  have hok : ∀ b, o.ownBlock = some b → B ≤ b ∧ b < wr.heap.size := fun b hb => h.own.lt b hb
  have h34 : ∀ i, i < w2.heap.size → o.ownBlock ≠ some i → w4.heap[i]? = w2.heap[i]? := fun i hi hne =>
    (hgr.block i (by omega) (fun e => hne e.symm)).trans (h3.block i hi)
  have hF4 : ∀ i, F i → w4.heap[i]? = wr.heap[i]? := fun i hi => by
    obtain ⟨a1, a2, a3⟩ := h.fin i hi
    exact (h34 i (by omega) a3).trans (hs.1.block i a2 (fun e => by simp only [Option.some.injEq] at e; omega))
  refine ⟨by simp [h.len], by simpa using hown, ?_, by omega, ?_, ?_, ?_⟩
  · refine ⟨?_, ?_⟩
    · have g1 := (h.src.1.trans hs.1).trans (grown_below h3 (some g))
      refine ⟨hgr.os.trans g1.os, hgr.tape.trans g1.tape, hgr.output.trans g1.output, Nat.le_trans g1.size z2, fun i hi hne => ?_⟩
      exact (hgr.block i (by have := g1.size; omega) (fun e => by have := (hok i e.symm).1; omega)).trans (g1.block i hi hne)
    · have hq := hs.2.below h3
      cases ho : o.ownBlock with
      | none => rw [ho] at hgr; exact hq.below ⟨hgr.os, hgr.tape, hgr.output, hgr.size, fun i hi => hgr.block i hi (by simp)⟩
      | some b => rw [ho] at hgr; exact hq.grown hgr (by have := (hok b ho).1; omega)
  · refine ((h.foot.on (by omega) hF4).mono (fun i hi => Or.inl hi)).imp2 (Q := ok x) (((foot_stays hst).on (by omega) (fun i hi => h34 i hi.2 (fun e => by have := (hok i e).2; omega))).mono (fun i hi => Or.inr hi)) (fun w' a b => ⟨a.1, fun y hy => ?_⟩)
    rcases List.mem_append.1 hy with hy | hy
    · exact a.2 y hy
    · rw [List.mem_singleton] at hy; subst hy; exact b
  · intro i hi
    rcases hi with hi | ⟨a1, a2⟩
    · obtain ⟨b1, b2, b3⟩ := h.fin i hi
      refine ⟨b1, by omega, ?_⟩
      rcases hat with e | e
      · rw [e]; exact b3
      · rw [e]; intro e2; simp only [Option.some.injEq] at e2; omega
    · have := h.src.1.size
      refine ⟨by omega, by omega, ?_⟩
      rcases hat with e | e
      · rw [e]; intro e2; have := (hok i e2).2; omega
      · rw [e]; intro e2; simp only [Option.some.injEq] at e2; omega
  · rw [h.all, List.drop_eq_getElem_cons hj, tkAll]
    simp [hx]
theorem PtSt.done {α : Type} {T k : Nat} {C : α → List Value} {er : α → α} {ok : α → World → Prop} {tk : Sc → α × Sc} {w wr : World} {B g : Nat} {A : Option Addr} {l : List (List UInt8)} {s1 : Sc} {o : Value} {xs : List α} {sj : Sc} {F : Nat → Prop}
    (h : PtSt T k C er ok tk w B g A l s1 l.length o xs sj F wr) (hB : w.heap.size ≤ B) : ∃ a c, o = .slice a l.length c ∧ RetXs k C er ok g (tkAll tk l s1) w (.returned (.slice a l.length c)) wr := by
  obtain ⟨a, c, rfl⟩ := ownsRow_form h.own
  refine ⟨a, c, rfl, ⟨a, c, xs⟩, by rw [h.len], ?_, ?_, ?_⟩
  · rw [h.all, List.drop_length]; simp [tkAll]
  · have h1 : Stays w.heap.size (fun w => Rd w k a l.length (xs.flatMap C)) wr := stays_row h.own hB
    have h2 : Stays w.heap.size (fun W => Rd W 1 A l.length (strC l) ∧ ∀ y ∈ xs, ok y W) wr := stays_foot h.foot (fun i hi => ⟨(h.fin i hi).1, (h.fin i hi).2.1⟩)
    exact (h1.and h2).imp (fun w' hh => ⟨by show Rd w' k a xs.length (xs.flatMap C); rw [h.len]; exact hh.1, hh.2.2⟩)
  · rw [h.all, List.drop_length]; exact h.src
/-- the condition that is held may be made stronger on the way -/
theorem wpAnyH_strong {P : Program} {ops : Array Oper} {Q : Exit → Act → World → Prop} {md : Region.Mode} {S S' : World → Prop} (h : ∀ w, S' w → S w) :
    ∀ (fuel : Nat) (listed : Array Bool) (a : Act) (w : World), wpAnyH P md ops Q S' fuel listed a w → wpAnyH P md ops Q S fuel listed a w
  | 0, _, _, _, k => k
  | fuel + 1, _, _, _, k => ⟨k.1, fun i hi => wpOp_mono (fun a' w' h' => ⟨h w' h'.1, wpAnyH_strong h fuel _ a' w' h'.2⟩) (k.2 i hi)⟩
theorem Vr.sets_at {w : World} {b : Nat} {cs : List Value} (h : Vr w b cs) (o : Nat) (cs' : List Value) (ho : o + cs'.length ≤ cs.length) : Vr (w.setCells b o cs') b (cs.take o ++ (cs' ++ cs.drop (o + cs'.length))) where
  lt := Nat.lt_of_lt_of_le h.lt (grown_sets w b cs' o).size
  cells j v hv := by
    have hth : w.there b o cs'.length := fun i hi => ⟨by rw [h.cells (o + i) _ (List.getElem?_eq_getElem (by omega))]; rfl, h.free (o + i) (by omega)⟩
    rcases Nat.lt_or_ge j o with hj | hj
    · rw [List.getElem?_append_left (by rw [List.length_take]; omega), List.getElem?_take_of_lt hj] at hv
      rw [World.cell?_setCells_out b cs' o w ⟨b, j, none⟩ (fun _ _ => Or.inl hj)]
      exact h.cells j v hv
    · rw [List.getElem?_append_right (by rw [List.length_take]; omega), List.length_take, Nat.min_eq_left (by omega)] at hv
      rcases Nat.lt_or_ge (j - o) cs'.length with hk | hk
      · rw [List.getElem?_append_left hk] at hv
        have := World.rangeAt_setCells_same w b o cs' hth (j - o) v hv
        rwa [show o + (j - o) = j from by omega] at this
      · rw [List.getElem?_append_right hk, List.getElem?_drop] at hv
        rw [World.cell?_setCells_out b cs' o w ⟨b, j, none⟩ (fun _ _ => Or.inr (by show o + cs'.length ≤ j; omega))]
        rw [show o + cs'.length + (j - o - cs'.length) = j from by omega] at hv
        exact h.cells j v hv
  free j hj := by
    rw [World.frozen?_setCells]
    refine h.free j ?_
    simp only [List.length_append, List.length_take, List.length_drop] at hj
    omega
theorem Vr.there_at {w : World} {b : Nat} {cs : List Value} (h : Vr w b cs) (o n : Nat) (hn : o + n ≤ cs.length) : w.there b o n := fun j hj => ⟨by rw [h.cells (o + j) _ (List.getElem?_eq_getElem (by omega))]; rfl, h.free (o + j) (by omega)⟩
theorem one_of (l : List Int) (h : l.length = 1) : ∃ a, l = [a] := by
  match l, h with
  | [a], _ => exact ⟨a, rfl⟩
theorem six_of (l : List Int) (h : l.length = 6) : ∃ a b c d e f, l = [a, b, c, d, e, f] := by
  match l, h with
  | [a, b, c, d, e, f], _ => exact ⟨a, b, c, d, e, f, rfl⟩
/-- the cells of a row of numbers, as long as it stands -/
theorem ints_cells {W : World} {A : Option Addr} {n : Nat} {l : List Int} (h : Rd W 1 A n (intC l)) (hl : 0 < l.length) : ∃ b o, A = some ⟨b, o, none⟩ ∧ b < W.heap.size ∧ ∀ j v, (intC l)[j]? = some v → W.cell? ⟨b, o + j, none⟩ = some v := by
  obtain ⟨b, o, hA, hb, hc⟩ := h.cells (by rw [intC_len]; exact hl)
  exact ⟨b, o, hA, hb, hc⟩
/-- what holds as long as some blocks stand, from a on, without b4 -/
def Held (a b4 : Nat) (P : World → Prop) (W : World) : Prop := ∃ F : Nat → Prop, Foot F P W ∧ ∀ k, F k → a ≤ k ∧ k < W.heap.size ∧ k ≠ b4
theorem Held.row {a b4 q : Nat} {P : World → Prop} {W W' : World} (h : Held a b4 P W) (hg : W.grownBy W' (some q)) (hq : q < a ∨ q = b4) : Held a b4 P W' := by
  obtain ⟨F, h1, h2⟩ := h
  have hz := hg.size
  refine ⟨F, h1.on hz (fun k hk => hg.block k (h2 k hk).2.1 (fun e => ?_)), fun k hk => ⟨(h2 k hk).1, Nat.lt_of_lt_of_le (h2 k hk).2.1 hz, (h2 k hk).2.2⟩⟩
  simp only [Option.some.injEq] at e
  have h3 := h2 k hk
  omega
theorem Held.below {a b4 : Nat} {P : World → Prop} {W W' : World} (h : Held a b4 P W) (hb : Below W.heap.size W W') : Held a b4 P W' := by
  obtain ⟨F, h1, h2⟩ := h
  exact ⟨F, h1.on hb.size (fun k hk => hb.block k (h2 k hk).2.1), fun k hk => ⟨(h2 k hk).1, Nat.lt_of_lt_of_le (h2 k hk).2.1 hb.size, (h2 k hk).2.2⟩⟩
theorem held_new {a b b4 : Nat} {P : World → Prop} {W : World} (h : Stays b P W) (ha : a ≤ b) (hb : b4 < b ∨ W.heap.size ≤ b4) : Held a b4 P W :=
  ⟨_, foot_stays h, fun k hk => ⟨Nat.le_trans ha hk.1, hk.2, by omega⟩⟩
theorem Held.stays {a b4 : Nat} {P : World → Prop} {W : World} (h : Held a b4 P W) : Stays a P W := by
  obtain ⟨F, h1, h2⟩ := h
  exact stays_foot h1 (fun k hk => ⟨(h2 k hk).1, (h2 k hk).2.1⟩)
theorem keeps_row2 {a q : Nat} {w W W' : World} (h : Keeps a w W) (hg : W.grownBy W' (some q)) (hq : q < a ∨ w.heap.size ≤ q) : Keeps a w W' :=
  ⟨Nat.le_trans h.1 hg.size, fun k ha hk => (hg.block k (Nat.lt_of_lt_of_le hk h.1) (fun e => by simp only [Option.some.injEq] at e; omega)).trans (h.2 k ha hk)⟩
theorem part_len {α : Type} (tk : Sc → α × Sc) (t : List UInt8) (s : Sc) : (tkPart tk t s).2.rest.length ≤ s.rest.length := Nat.le_refl _
/-- a variable of the call's own is stored into -/
theorem Vr.far {W W' : World} {b q : Nat} {cs : List Value} (h : Vr W b cs) (hg : W.grownBy W' (some q)) (hne : b ≠ q) : Vr W' b cs := h.grown hg hne
theorem grown_vs_at {w : World} {b o : Nat} (vs : List Value) : w.grownBy (w.setCells b o vs) (some b) := grown_sets w b vs o
end Go.Proofs.YtoehakekjlebdaaGreatDoor
