/- Messages and their parts: as values with the addresses of their rows, their cells, their encodings, their sizes. -/
import Derived.Test.YtoehakekjlebdaaDoorWireP
namespace Go.Proofs.YtoehakekjlebdaaDoor
open Go.RowKit

/-- a slice: its address, its capacity, its elements -/
structure Sl (α : Type) where
  a : Option Addr
  c : Nat
  l : List α
def Sl.v {α : Type} (s : Sl α) : Value := .slice s.a s.l.length s.c
def Sl.nil {α : Type} : Sl α := ⟨none, 0, []⟩
structure Sg where
  (server kind view slot : Int) (digest sig : List UInt8)
  deriving DecidableEq
structure St where
  (server view length lockView : Int) (lock : List UInt8) (cert : Sl Sg) (signed : Sg)
structure De where
  (view : Int) (value : List UInt8) (cert : Sl Sg)
structure Ho where
  (slot : Int) (entry : De)
structure Sn where
  (slot : Int) (root : List UInt8) (chunks : Sl (List UInt8)) (proof : Sl Sg) (chain : Sl Ho)
structure Ms where
  (kind src dst view slot : Int) (value : List UInt8) (till : Int) (signed : Sg) (statuses : Sl St) (entries : Sl De) (snapshot : Sn) (texts : Sl (List UInt8))

/-! the encodings -/
def contSg (x : Sg) : List UInt8 := putInts [x.server, x.kind, x.view, x.slot] ++ putStr x.digest
def encSg (x : Sg) : List UInt8 := contSg x ++ putStr x.sig
def encSt (s : St) : List UInt8 := putInts [s.server, s.view, s.length, s.lockView] ++ putStr s.lock ++ putList (s.cert.l.map encSg) ++ putStr (encSg s.signed)
def encDe (d : De) : List UInt8 := putInts [d.view] ++ putStr d.value ++ putList (d.cert.l.map encSg)
def encHo (h : Ho) : List UInt8 := putInts [h.slot] ++ encDe h.entry
def encSn (x : Sn) : List UInt8 := putInts [x.slot] ++ putStr x.root ++ putList x.chunks.l ++ putList (x.proof.l.map encSg) ++ putList (x.chain.l.map encHo)
def encMs (m : Ms) : List UInt8 := putInts [m.kind, m.src, m.dst, m.view, m.slot, m.till] ++ putStr m.value ++ putStr (encSg m.signed) ++ putList (m.statuses.l.map encSt) ++ putList (m.entries.l.map encDe) ++ putStr (encSn m.snapshot) ++ putList m.texts.l

/-! the cells -/
def sgC (x : Sg) : List Value := [.int .i64 x.server, .int .i64 x.kind, .int .i64 x.view, .int .i64 x.slot, .string ⟨x.digest.toArray⟩, .string ⟨x.sig.toArray⟩]
def stC (s : St) : List Value := [.int .i64 s.server, .int .i64 s.view, .int .i64 s.length, .int .i64 s.lockView, .string ⟨s.lock.toArray⟩, s.cert.v,
  .int .i64 s.signed.server, .int .i64 s.signed.kind, .int .i64 s.signed.view, .int .i64 s.signed.slot, .string ⟨s.signed.digest.toArray⟩, .string ⟨s.signed.sig.toArray⟩]
def deC (d : De) : List Value := [.int .i64 d.view, .string ⟨d.value.toArray⟩, d.cert.v]
def hoC (h : Ho) : List Value := [.int .i64 h.slot, .int .i64 h.entry.view, .string ⟨h.entry.value.toArray⟩, h.entry.cert.v]
def snC (x : Sn) : List Value := [.int .i64 x.slot, .string ⟨x.root.toArray⟩, x.chunks.v, x.proof.v, x.chain.v]
def msC (m : Ms) : List Value := [.int .i64 m.kind, .int .i64 m.src, .int .i64 m.dst, .int .i64 m.view, .int .i64 m.slot, .string ⟨m.value.toArray⟩, .int .i64 m.till,
  .int .i64 m.signed.server, .int .i64 m.signed.kind, .int .i64 m.signed.view, .int .i64 m.signed.slot, .string ⟨m.signed.digest.toArray⟩, .string ⟨m.signed.sig.toArray⟩,
  m.statuses.v, m.entries.v, .int .i64 m.snapshot.slot, .string ⟨m.snapshot.root.toArray⟩, m.snapshot.chunks.v, m.snapshot.proof.v, m.snapshot.chain.v, m.texts.v]
def strV (x : List UInt8) : List Value := [.string ⟨x.toArray⟩]

/-! what stands in memory, and the ranges -/
def Sl.rd {α : Type} (k : Nat) (C : α → List Value) (s : Sl α) (w : World) : Prop := Rd w k s.a s.l.length (s.l.flatMap C)
def Sg.ok (x : Sg) : Prop := I64 x.server ∧ I64 x.kind ∧ I64 x.view ∧ I64 x.slot
def St.ok (s : St) (w : World) : Prop := (I64 s.server ∧ I64 s.view ∧ I64 s.length ∧ I64 s.lockView) ∧ s.cert.rd 6 sgC w ∧ (∀ x ∈ s.cert.l, x.ok) ∧ s.signed.ok
def De.ok (d : De) (w : World) : Prop := I64 d.view ∧ d.cert.rd 6 sgC w ∧ ∀ x ∈ d.cert.l, x.ok
def Ho.ok (h : Ho) (w : World) : Prop := I64 h.slot ∧ h.entry.ok w
def Sn.ok (x : Sn) (w : World) : Prop := I64 x.slot ∧ x.chunks.rd 1 strV w ∧ (x.proof.rd 6 sgC w ∧ ∀ y ∈ x.proof.l, y.ok) ∧ x.chain.rd 4 hoC w ∧ ∀ h ∈ x.chain.l, h.ok w
def Ms.ok (m : Ms) (w : World) : Prop := (I64 m.kind ∧ I64 m.src ∧ I64 m.dst ∧ I64 m.view ∧ I64 m.slot ∧ I64 m.till) ∧ m.signed.ok ∧ (m.statuses.rd 12 stC w ∧ ∀ s ∈ m.statuses.l, s.ok w) ∧
  (m.entries.rd 3 deC w ∧ ∀ d ∈ m.entries.l, d.ok w) ∧ m.snapshot.ok w ∧ m.texts.rd 1 strV w
theorem Sl.rd_below {α : Type} {k : Nat} {C : α → List Value} {s : Sl α} {w w' : World} (h : s.rd k C w) (hb : Below w.heap.size w w') : s.rd k C w' := Rd.below h hb
theorem St.below {s : St} {w w' : World} (h : s.ok w) (hb : Below w.heap.size w w') : s.ok w' := ⟨h.1, Sl.rd_below h.2.1 hb, h.2.2⟩
theorem De.below {s : De} {w w' : World} (h : s.ok w) (hb : Below w.heap.size w w') : s.ok w' := ⟨h.1, Sl.rd_below h.2.1 hb, h.2.2⟩
theorem Ho.below {s : Ho} {w w' : World} (h : s.ok w) (hb : Below w.heap.size w w') : s.ok w' := ⟨h.1, De.below h.2 hb⟩
theorem Sn.below {x : Sn} {w w' : World} (h : x.ok w) (hb : Below w.heap.size w w') : x.ok w' :=
  ⟨h.1, Sl.rd_below h.2.1 hb, ⟨Sl.rd_below h.2.2.1.1 hb, h.2.2.1.2⟩, Sl.rd_below h.2.2.2.1 hb, fun y hy => Ho.below (h.2.2.2.2 y hy) hb⟩
theorem Ms.below {m : Ms} {w w' : World} (h : m.ok w) (hb : Below w.heap.size w w') : m.ok w' :=
  ⟨h.1, h.2.1, ⟨Sl.rd_below h.2.2.1.1 hb, fun y hy => St.below (h.2.2.1.2 y hy) hb⟩, ⟨Sl.rd_below h.2.2.2.1.1 hb, fun y hy => De.below (h.2.2.2.1.2 y hy) hb⟩, Sn.below h.2.2.2.2.1 hb, Sl.rd_below h.2.2.2.2.2 hb⟩
theorem strV_strC (l : List (List UInt8)) : l.flatMap strV = strC l := by
  induction l with
  | nil => rfl
  | cons x r ih => simp only [List.flatMap_cons, strV, strC, List.map_cons, List.cons_append, List.nil_append] at ih ⊢; rw [ih]

/-! the sizes: no more than what the reading holds -/
def sum {α : Type} (f : α → Nat) (l : List α) : Nat := (l.map f).sum
theorem sum_cons {α : Type} (f : α → Nat) (x : α) (r : List α) : sum f (x :: r) = f x + sum f r := by simp [sum]
theorem sum_nil {α : Type} (f : α → Nat) : sum f [] = 0 := rfl
theorem sum_get {α : Type} (f : α → Nat) (l : List α) (x : α) (h : x ∈ l) : f x ≤ sum f l := by
  induction l with
  | nil => simp at h
  | cons y r ih =>
    rw [sum_cons]
    rcases List.mem_cons.1 h with rfl | h
    · omega
    · have := ih h; omega
theorem sum_ge {α : Type} (f : α → Nat) (l : List α) (k : Nat) (h : ∀ x, k ≤ f x) : k * l.length ≤ sum f l := by
  induction l with
  | nil => simp
  | cons y r ih => rw [sum_cons, List.length_cons, Nat.mul_succ]; have := h y; omega
def Sg.sz (x : Sg) : Nat := x.digest.length + x.sig.length + 7
def szS (x : List UInt8) : Nat := x.length + 1
def St.sz (s : St) : Nat := s.lock.length + sum Sg.sz s.cert.l + s.signed.sz + 7
def De.sz (d : De) : Nat := d.value.length + sum Sg.sz d.cert.l + 4
def Ho.sz (h : Ho) : Nat := h.entry.sz + 2
def Sn.sz (x : Sn) : Nat := x.root.length + sum szS x.chunks.l + sum Sg.sz x.proof.l + sum Ho.sz x.chain.l + 6
def Ms.sz (m : Ms) : Nat := m.value.length + m.signed.sz + sum St.sz m.statuses.l + sum De.sz m.entries.l + m.snapshot.sz + sum szS m.texts.l + 11
theorem Sg.sz_ge (x : Sg) : 7 ≤ x.sz := by unfold Sg.sz; omega
theorem szS_ge (x : List UInt8) : 1 ≤ szS x := by unfold szS; omega
theorem St.sz_ge (x : St) : 14 ≤ x.sz := by have := x.signed.sz_ge; unfold St.sz; omega
theorem De.sz_ge (x : De) : 4 ≤ x.sz := by unfold De.sz; omega
theorem Ho.sz_ge (x : Ho) : 6 ≤ x.sz := by have := x.entry.sz_ge; unfold Ho.sz; omega

theorem tot_map {α : Type} (enc : α → List UInt8) (f : α → Nat) (c : Nat) (l : List α) (h : ∀ x ∈ l, (enc x).length ≤ c * f x) : tot (l.map enc) ≤ c * sum f l := by
  induction l with
  | nil => simp [tot]
  | cons x r ih =>
    have h1 := h x (by simp)
    have h2 := ih (fun y hy => h y (by simp [hy]))
    rw [List.map_cons, tot_cons, sum_cons, Nat.mul_add]
    omega
theorem tot_strs (l : List (List UInt8)) : tot l ≤ sum szS l := by
  induction l with
  | nil => simp [tot, sum]
  | cons x r ih => rw [tot_cons, sum_cons]; unfold szS at ih ⊢; omega
theorem encSg_len (x : Sg) (h : x.ok) (hs : x.sz ≤ 16777216) : (encSg x).length ≤ 10 * x.sz := by
  have h1 := putInts_len [x.server, x.kind, x.view, x.slot] (by simpa [List.forall_mem_cons, Sg.ok] using h) (by simp)
  unfold Sg.sz at hs ⊢
  have h2 := putStr_len x.digest (by omega)
  have h3 := putStr_len x.sig (by omega)
  simp only [encSg, contSg, List.length_append, List.length_cons, List.length_nil] at h1 ⊢
  omega
theorem cert_len (l : List Sg) (h : ∀ x ∈ l, x.ok) (hs : sum Sg.sz l ≤ 16777216) : (putList (l.map encSg)).length ≤ 10 + 12 * sum Sg.sz l ∧ tot (l.map encSg) ≤ 10 * sum Sg.sz l ∧ 7 * l.length ≤ sum Sg.sz l := by
  have h0 := sum_ge Sg.sz l 7 Sg.sz_ge
  have h1 := tot_map encSg Sg.sz 10 l (fun x hx => encSg_len x (h x hx) (by have := sum_get Sg.sz l x hx; omega))
  have h2 := putList_len (l.map encSg) (by omega) (by simp; omega)
  simp only [List.length_map] at h2
  exact ⟨by omega, h1, h0⟩
theorem encSt_len (s : St) (w : World) (h : s.ok w) (hs : s.sz ≤ 16777216) : (encSt s).length ≤ 12 * s.sz := by
  have h1 := putInts_len [s.server, s.view, s.length, s.lockView] (by simpa [List.forall_mem_cons] using h.1) (by simp)
  unfold St.sz at hs ⊢
  have h2 := putStr_len s.lock (by omega)
  have h3 := (cert_len s.cert.l h.2.2.1 (by omega)).1
  have h4 := encSg_len s.signed h.2.2.2 (by omega)
  have h5 := putStr_len (encSg s.signed) (by omega)
  simp only [encSt, List.length_append, List.length_cons, List.length_nil] at h1 ⊢
  omega
theorem encDe_len (d : De) (w : World) (h : d.ok w) (hs : d.sz ≤ 16777216) : (encDe d).length ≤ 12 * d.sz := by
  have h1 := putInts_len [d.view] (by simpa [List.forall_mem_cons] using h.1) (by simp)
  unfold De.sz at hs ⊢
  have h2 := putStr_len d.value (by omega)
  have h3 := (cert_len d.cert.l h.2.2 (by omega)).1
  simp only [encDe, List.length_append, List.length_cons, List.length_nil] at h1 ⊢
  omega
theorem encHo_len (x : Ho) (w : World) (h : x.ok w) (hs : x.sz ≤ 16777216) : (encHo x).length ≤ 12 * x.sz := by
  have h1 := putInts_len [x.slot] (by simpa [List.forall_mem_cons] using h.1) (by simp)
  unfold Ho.sz at hs ⊢
  have h2 := encDe_len x.entry w h.2 (by omega)
  simp only [encHo, List.length_append, List.length_cons, List.length_nil] at h1 ⊢
  omega
theorem list_len {α : Type} (enc : α → List UInt8) (f : α → Nat) (l : List α) (h : ∀ x ∈ l, (enc x).length ≤ 12 * f x) (hf : ∀ x, 4 ≤ f x) (hs : sum f l ≤ 16777216) :
    (putList (l.map enc)).length ≤ 10 + 15 * sum f l ∧ tot (l.map enc) ≤ 12 * sum f l ∧ 4 * l.length ≤ sum f l := by
  have h0 := sum_ge f l 4 hf
  have h1 := tot_map enc f 12 l h
  have h2 := putList_len (l.map enc) (by omega) (by simp; omega)
  simp only [List.length_map] at h2
  exact ⟨by omega, h1, h0⟩
theorem strL_len (l : List (List UInt8)) (hs : sum szS l ≤ 16777216) : (putList l).length ≤ 10 + 11 * sum szS l ∧ tot l ≤ sum szS l ∧ l.length ≤ sum szS l := by
  have h0 := sum_ge szS l 1 szS_ge
  have h1 := tot_strs l
  have h2 := putList_len l (by omega) (by omega)
  exact ⟨by omega, h1, by omega⟩
theorem encSn_len (x : Sn) (w : World) (h : x.ok w) (hs : x.sz ≤ 16777216) : (encSn x).length ≤ 15 * x.sz := by
  have h1 := putInts_len [x.slot] (by simpa [List.forall_mem_cons] using h.1) (by simp)
  unfold Sn.sz at hs ⊢
  have h2 := putStr_len x.root (by omega)
  have h3 := (strL_len x.chunks.l (by omega)).1
  have h4 := (cert_len x.proof.l h.2.2.1.2 (by omega)).1
  have h5 := (list_len encHo Ho.sz x.chain.l (fun y hy => encHo_len y w (h.2.2.2.2 y hy) (by have := sum_get Ho.sz _ y hy; omega)) (fun y => by have := y.sz_ge; omega) (by omega)).1
  simp only [encSn, List.length_append, List.length_cons, List.length_nil] at h1 ⊢
  omega
theorem encMs_len (m : Ms) (w : World) (h : m.ok w) (hs : m.sz ≤ 16777216) : (encMs m).length ≤ 16 * m.sz := by
  have h1 := putInts_len [m.kind, m.src, m.dst, m.view, m.slot, m.till] (by simpa [List.forall_mem_cons] using h.1) (by simp)
  unfold Ms.sz at hs ⊢
  have h2 := putStr_len m.value (by omega)
  have h3 := encSg_len m.signed h.2.1 (by omega)
  have h4 := putStr_len (encSg m.signed) (by omega)
  have h5 := (list_len encSt St.sz m.statuses.l (fun y hy => encSt_len y w (h.2.2.1.2 y hy) (by have := sum_get St.sz _ y hy; omega)) (fun y => by have := y.sz_ge; omega) (by omega)).1
  have h6 := (list_len encDe De.sz m.entries.l (fun y hy => encDe_len y w (h.2.2.2.1.2 y hy) (by have := sum_get De.sz _ y hy; omega)) (fun y => y.sz_ge) (by omega)).1
  have h7 := encSn_len m.snapshot w h.2.2.2.2.1 (by omega)
  have h8 := putStr_len (encSn m.snapshot) (by omega)
  have h9 := (strL_len m.texts.l (by omega)).1
  simp only [encMs, List.length_append, List.length_cons, List.length_nil] at h1 ⊢
  omega
end Go.Proofs.YtoehakekjlebdaaDoor
