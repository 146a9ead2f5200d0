/- What is wrong with a message: in plain words, no program in sight. -/
import Derived.Test.YtoehakekjlebdaaDoorMsgP
namespace Go.Proofs.YtoehakekjlebdaaDoor

def num (n : Int) : Bool := decide (0 ≤ n) && decide (n ≤ 2147483647)
def sgShort (x : Sg) : Bool := decide (x.digest.length ≤ 64) && decide (x.sig.length ≤ 64)
def certShort (l : List Sg) : Bool := l.all sgShort && decide (l.length ≤ 12)
def stRange (s : St) : Bool := decide (0 ≤ s.server) && decide (s.server < 12) && num s.view && num s.length && num s.lockView
def stShort (s : St) : Bool := decide (s.lock.length ≤ 2000) && certShort s.cert.l && sgShort s.signed
def deShort (d : De) : Bool := decide (d.value.length ≤ 2000) && certShort d.cert.l
def hoRange (h : Ho) : Bool := num h.slot && num h.entry.view
def rangesB (m : Ms) : Bool := m.statuses.l.all stRange && m.entries.l.all (fun d => num d.view) && m.snapshot.chain.l.all hoRange && num m.snapshot.slot
def headB (m : Ms) : Bool := decide (m.value.length ≤ 2000) && decide (m.statuses.l.length ≤ 12) && decide (m.entries.l.length ≤ 8) && decide (m.texts.l.length ≤ 500)
def rootB (m : Ms) : Bool := decide (m.snapshot.root.length ≤ 64) && decide (m.snapshot.chain.l.length ≤ 20)
def lengthsB (m : Ms) : Bool := headB m && rootB m && m.statuses.l.all stShort && m.entries.l.all deShort && m.snapshot.chain.l.all (fun h => deShort h.entry) && decide (tot m.texts.l ≤ 60000) && sgShort m.signed && certShort m.snapshot.proof.l
def emptySn (x : Sn) : Bool := decide (x.slot = 0) && decide (x.root = []) && decide (x.chunks.l.length + x.proof.l.length + x.chain.l.length = 0)
def sgZero (x : Sg) : Bool := decide (x = ⟨0, 0, 0, 0, [], []⟩)
def presL (m : Ms) : List Bool := [m.view != 0, m.slot != 0, m.till != 0, !m.value.isEmpty, !sgZero m.signed, decide (0 < m.statuses.l.length), decide (0 < m.entries.l.length), !emptySn m.snapshot, decide (0 < m.texts.l.length)]
def presN (l : List Bool) : Nat := (l.zipIdx.map fun x => if x.1 then 2 ^ x.2 else 0).sum
/-- the fields of a kind -/
def kwF (k : Int) : Nat := if k = 1 then 3 else if k = 2 then 99 else if k = 3 then 59 else if k = 4 then 19 else if k = 5 then 27 else if k = 6 then 66 else if k = 7 then 2 else if k = 8 then 1 else if k = 9 then 5 else if k = 10 then 26 else if k = 11 then 132 else if k = 12 then 271 else 0
/-- the words of the kinds -/
def kwS (k : Int) : List UInt8 := if k = 1 then [97, 115, 107] else if k = 2 then [115, 116, 97, 116, 117, 115] else if k = 3 then [112, 114, 111, 112, 111, 115, 101] else if k = 4 then [112, 114, 101, 112, 97, 114, 101] else if k = 5 then [99, 111, 109, 109, 105, 116] else if k = 6 then [108, 101, 97, 114, 110] else if k = 7 then [102, 101, 116, 99, 104] else if k = 8 then [108, 101, 97, 115, 101] else if k = 9 then [103, 114, 97, 110, 116] else if k = 10 then [115, 116, 97, 98, 108, 101] else if k = 11 then [115, 110, 97, 112, 115, 104, 111, 116] else if k = 12 then [99, 104, 117, 110, 107] else []
def alw (k : Int) (i : Nat) : Bool := (kwF k).testBit i
def spareB (m : Ms) : Bool := (presL m).zipIdx.any fun x => x.1 && !alw m.kind x.2
def partB (m : Ms) : Bool := decide (m.src < 0) || decide (12 ≤ m.src) || decide (m.dst < 0) || decide (18 ≤ m.dst) || !num m.view || !num m.slot || decide (m.till < 0)
def oneB (m : Ms) : Bool := decide (m.kind = 2) && decide (m.statuses.l.length ≠ 1)
def vMs (m : Ms) : Int :=
  if m.kind < 1 ∨ 12 < m.kind then 1 else if partB m = true then 7 else if spareB m = true ∨ oneB m = true then 1
  else if rangesB m = false then 7 else if lengthsB m = false then 3 else if 0 < m.snapshot.chunks.l.length then 1 else 0
def vSt (s : St) : Int := if stRange s = false then 7 else if stShort s = false then 3 else 0

/-- whoever is right is short -/
theorem cert_short {l : List Sg} (h : certShort l = true) : sum Sg.sz l ≤ 2000 := by
  simp only [certShort, Bool.and_eq_true, decide_eq_true_eq, List.all_eq_true] at h
  have h1 : ∀ l : List Sg, (∀ x ∈ l, sgShort x = true) → sum Sg.sz l ≤ 135 * l.length := by
    intro l
    induction l with
    | nil => intro _; simp [sum]
    | cons x r ih =>
      intro hx
      have h1 := hx x (by simp)
      have h2 := ih (fun y hy => hx y (by simp [hy]))
      simp only [sgShort, Bool.and_eq_true, decide_eq_true_eq] at h1
      rw [sum_cons, List.length_cons]
      unfold Sg.sz at *
      omega
  have := h1 l h.1
  omega
theorem st_short {s : St} (h : stShort s = true) : s.sz ≤ 4200 := by
  simp only [stShort, sgShort, Bool.and_eq_true, decide_eq_true_eq] at h
  have := cert_short h.1.2
  unfold St.sz Sg.sz
  unfold Sg.sz at this
  omega
theorem de_short {d : De} (h : deShort d = true) : d.sz ≤ 4100 := by
  simp only [deShort, Bool.and_eq_true, decide_eq_true_eq] at h
  have := cert_short h.2
  unfold De.sz
  omega
theorem sum_le_all {α : Type} (f : α → Nat) (c : Nat) (l : List α) (h : ∀ x ∈ l, f x ≤ c) : sum f l ≤ c * l.length := by
  induction l with
  | nil => simp [sum]
  | cons x r ih =>
    have h1 := h x (by simp)
    have h2 := ih (fun y hy => h y (by simp [hy]))
    rw [sum_cons, List.length_cons, Nat.mul_succ]
    omega
theorem szS_tot (l : List (List UInt8)) : sum szS l = tot l + l.length := by
  induction l with
  | nil => rfl
  | cons x r ih => rw [sum_cons, tot_cons, List.length_cons, ih]; unfold szS; omega
theorem ms_short {m : Ms} (h : vMs m = 0) : m.sz ≤ 300000 ∧ m.snapshot.chunks.l = [] := by
  unfold vMs at h
  split at h
  · simp at h
  split at h
  · simp at h
  split at h
  · simp at h
  split at h
  · simp at h
  split at h
  · simp at h
  rename_i hL
  split at h
  · simp at h
  rename_i hC
  have hL' : lengthsB m = true := by simpa using hL
  simp only [lengthsB, headB, rootB, sgShort, Bool.and_eq_true, decide_eq_true_eq, List.all_eq_true] at hL'
  obtain ⟨⟨⟨⟨⟨⟨⟨⟨⟨⟨h1, h2⟩, h3⟩, h4⟩, h5, h6⟩, h7⟩, h8⟩, h9⟩, h10⟩, h11⟩, h12⟩ := hL'
  have a1 := sum_le_all St.sz 4200 m.statuses.l (fun x hx => st_short (h7 x hx))
  have a2 := sum_le_all De.sz 4100 m.entries.l (fun x hx => de_short (h8 x hx))
  have a3 := sum_le_all Ho.sz 4102 m.snapshot.chain.l (fun x hx => by have := de_short (h9 x hx); unfold Ho.sz; omega)
  have a4 := cert_short h12
  have a5 := szS_tot m.texts.l
  have a6 : m.snapshot.chunks.l = [] := by
    cases hc : m.snapshot.chunks.l with
    | nil => rfl
    | cons x r => rw [hc] at hC; simp at hC
  refine ⟨?_, a6⟩
  have a7 : sum szS m.snapshot.chunks.l = 0 := by rw [a6]; rfl
  unfold Ms.sz Sn.sz Sg.sz
  unfold Sg.sz at a4
  omega
/-- the bits -/
theorem spare_bits : ∀ b0 b1 b2 b3 b4 b5 b6 b7 b8 : Bool, presN [b0, b1, b2, b3, b4, b5, b6, b7, b8] < 512 := by decide +kernel
end Go.Proofs.YtoehakekjlebdaaDoor
