/- Expressions as lists of nodes: their duals, their compositions, how they read in memory: no program in sight. -/
import Derived.Test.YtlklmpcfhnbhgaaDoorBaseP
import Derived.Deep.AppendLies
import Derived.KernelRfl
import Derived.Laws.Entries
namespace Go.Proofs.YtlklmpcfhnbhgaaDoor
open Go.RowKit

/-- a slice: its address, its capacity, its elements -/
structure Sl (α : Type) where
  a : Option Addr
  c : Nat
  l : List α
/-- a node without weights -/
structure Lg where
  (kind server need : Nat) (kids : List Nat)
  deriving DecidableEq
/-- a node in memory -/
structure Nd where
  (kind server need : Nat) (kids : Sl Nat)
def Nd.lg (n : Nd) : Lg := ⟨n.kind, n.server, n.need, n.kids.l⟩
/-- an expression in memory -/
structure Ex where
  (nodes : Sl Nd) (root : Nat)
def Ex.lg (x : Ex) : List Lg := x.nodes.l.map Nd.lg
def Ex.pr (x : Ex) : List Lg × Nat := (x.lg, x.root)
def nat1 (x : Nat) : List Value := [.int .i64 (x : Int)]
theorem nat1_len (x : Nat) : (nat1 x).length = 1 := rfl
def ndC (n : Nd) : List Value := [.int .i64 (n.kind : Int), .int .i64 (n.server : Int), .int .i64 (n.need : Int), .slice none 0 0, .slice n.kids.a n.kids.l.length n.kids.c]
theorem ndC_len (n : Nd) : (ndC n).length = 5 := rfl
def exC (x : Ex) : List Value := [.slice x.nodes.a x.nodes.l.length x.nodes.c, .int .i64 (x.root : Int)]
theorem exC_len (x : Ex) : (exC x).length = 2 := rfl
def Nd.ok (n : Nd) (w : World) : Prop := Rd w 1 n.kids.a n.kids.l.length (n.kids.l.flatMap nat1)
def Ex.ok (x : Ex) (w : World) : Prop := Rd w 5 x.nodes.a x.nodes.l.length (x.nodes.l.flatMap ndC) ∧ x.nodes.l.length ≤ x.nodes.c ∧ ∀ n ∈ x.nodes.l, n.ok w
theorem Nd.below {n : Nd} {w w' : World} (h : n.ok w) (hb : Below w.heap.size w w') : n.ok w' := Rd.below h hb
theorem Ex.below {x : Ex} {w w' : World} (h : x.ok w) (hb : Below w.heap.size w w') : x.ok w' := ⟨Rd.below h.1 hb, h.2.1, fun n hn => Nd.below (h.2.2 n hn) hb⟩
theorem Ex.lg_len (x : Ex) : x.lg.length = x.nodes.l.length := by simp [Ex.lg]
theorem Ex.lg_get (x : Ex) (i : Nat) (h : i < x.nodes.l.length) : x.lg[i]'(by rw [Ex.lg_len]; exact h) = (x.nodes.l[i]).lg := by simp [Ex.lg]

/-! validity -/
def Lg.vl (n : Lg) (i : Nat) : Prop := (n.kind = 1 ∧ n.need = 0 ∧ n.kids = [] ∧ n.server < 12) ∨ (n.kind = 2 ∧ n.server = 0 ∧ n.need ≤ 100000 ∧ n.kids.length ≤ 60 ∧ ∀ k ∈ n.kids, k < i)
instance (n : Lg) (i : Nat) : Decidable (n.vl i) := by unfold Lg.vl; infer_instance
structure VX (l : List Lg) (r : Nat) : Prop where
  pos : 0 < l.length
  le : l.length ≤ 60
  root : r < l.length
  each : ∀ i (h : i < l.length), (l[i]).vl i
theorem Lg.vl.srv {n : Lg} {i : Nat} (h : n.vl i) : n.server < 12 := by
  rcases h with h | h
  · exact h.2.2.2
  · rw [h.2.1]; decide
theorem Lg.vl.kid {n : Lg} {i : Nat} (h : n.vl i) : n.kids.length ≤ 60 ∧ ∀ k ∈ n.kids, k < i := by
  rcases h with h | h
  · rw [h.2.2.1]; simp
  · exact h.2.2.2

/-! thresholds of servers, duals -/
def leaf (s : Nat) : Lg := ⟨1, s, 0, []⟩
def th (k : Nat) (l : List Nat) : List Lg := l.map leaf ++ [⟨2, 0, k, List.range l.length⟩]
def dualN (n : Lg) : Lg := if n.kind = 2 then { n with need := n.kids.length + 1 - n.need } else n
def dual (l : List Lg) : List Lg := l.map dualN

/-! compositions -/
def mv (b : Nat) (l : List Lg) : List Lg := l.map fun n => if n.kind = 1 then { n with server := n.server + b } else n
def cnt1 (c : Nat) (n : Lg) : Nat := if n.kind = 1 then max c (n.server + 1) else c
def cnt (l : List Lg) : Nat := l.foldl cnt1 0
def mvs : Nat → List (List Lg × Nat) → List (List Lg × Nat)
  | _, [] => []
  | b, y :: r => (mv b y.1, y.2) :: mvs (b + cnt y.1) r
def tot (l : List (List Lg × Nat)) : Nat := (l.map fun y => cnt y.1).sum
/-- the values of the first nodes by 'size' -/
def szOf (sv : Nat → Nat) (acc : List Nat) (n : Lg) : Nat := n.kids.foldl (fun s k => min 61 (s + acc.getD k 0)) (if n.kind = 1 then sv n.server else 1)
def szs (sv : Nat → Nat) (l : List Lg) : List Nat := l.foldl (fun acc n => acc ++ [szOf sv acc n]) []
def sv1 (_ : Nat) : Nat := 1
def size1 (x : List Lg × Nat) : Nat := (szs sv1 (x.1.take (x.2 + 1))).getD x.2 0
def sv2 (ls : List (List Lg × Nat)) (s : Nat) : Nat := match ls[s]? with | some y => size1 y | none => 1
def size2 (ls : List (List Lg × Nat)) (x : List Lg × Nat) : Nat := (szs (sv2 ls) (x.1.take (x.2 + 1))).getD x.2 0
/-- what 'write' leaves -/
def wr : Nat → List Lg → Nat → List (List Lg × Nat) → List Lg → List Lg
  | 0, _, _, _, acc => acc
  | f + 1, x, i, ls, acc =>
    match x[i]? with
    | none => acc
    | some n =>
      if n.kind = 1 ∧ n.server < ls.length then
        match ls[n.server]? with
        | none => acc
        | some y => wr f y.1 y.2 [] acc
      else
        let r := n.kids.foldl (fun (p : List Nat × List Lg) k => (p.1 ++ [(wr f x k ls p.2).length - 1], wr f x k ls p.2)) ([], acc)
        r.2 ++ [{ n with kids := r.1 }]
def wok : Nat → List Lg → Nat → List (List Lg × Nat) → Prop
  | 0, _, _, _ => False
  | f + 1, x, i, ls => ∃ n, x[i]? = some n ∧ ((n.kind = 1 ∧ ∃ y, ls[n.server]? = some y ∧ wok f y.1 y.2 []) ∨ (¬ (n.kind = 1 ∧ n.server < ls.length) ∧ ∀ k ∈ n.kids, wok f x k ls))

/-! evaluation -/
def bitB (s sv : Nat) : Bool := bits BinOp.and IntKind.u16 ((s : Int) / 2 ^ min sv 16) 1 == 1
def holdN (s : Nat) (acc : List Bool) (n : Lg) : Bool :=
  if n.kind = 1 then bitB s n.server else decide (n.need ≤ n.kids.foldl (fun c k => if acc.getD k false then c + 1 else c) 0)
def holds (s : Nat) (l : List Lg) : List Bool := l.foldl (fun acc n => acc ++ [holdN s acc n]) []
def hold (s : Nat) (x : List Lg × Nat) : Bool := (holds s (x.1.take (x.2 + 1))).getD x.2 false

/-! the law -/
/-- the composition of thresholds -/
def comp (a j1 j2 j3 n1 n2 n3 : Nat) : List Lg :=
  wr 4 (th a [0, 1, 2]) 3 (mvs 0 [(th j1 (List.range n1), n1), (th j2 (List.range n2), n2), (th j3 (List.range n3), n3)]) []
def compD (a j1 j2 j3 n1 n2 n3 : Nat) : List Lg :=
  wr 4 (dual (th a [0, 1, 2])) 3 (mvs 0 [(dual (th j1 (List.range n1)), n1), (dual (th j2 (List.range n2)), n2), (dual (th j3 (List.range n3)), n3)]) []
def in13 (n : Nat) : Prop := n = 1 ∨ n = 2 ∨ n = 3
theorem compD_dual (a j1 j2 j3 n1 n2 n3 : Nat) (h1 : in13 n1) (h2 : in13 n2) (h3 : in13 n3) : compD a j1 j2 j3 n1 n2 n3 = dual (comp a j1 j2 j3 n1 n2 n3) := by
  rcases h1 with rfl | rfl | rfl <;> rcases h2 with rfl | rfl | rfl <;> rcases h3 with rfl | rfl | rfl <;> kernel_rfl
theorem comp_self (n1 n2 n3 : Nat) (h1 : n1 = 1 ∨ n1 = 3) (h2 : n2 = 1 ∨ n2 = 3) (h3 : n3 = 1 ∨ n3 = 3) : dual (comp 2 (n1 / 2 + 1) (n2 / 2 + 1) (n3 / 2 + 1) n1 n2 n3) = comp 2 (n1 / 2 + 1) (n2 / 2 + 1) (n3 / 2 + 1) n1 n2 n3 := by
  rcases h1 with rfl | rfl <;> rcases h2 with rfl | rfl <;> rcases h3 with rfl | rfl <;> kernel_rfl
end Go.Proofs.YtlklmpcfhnbhgaaDoor
