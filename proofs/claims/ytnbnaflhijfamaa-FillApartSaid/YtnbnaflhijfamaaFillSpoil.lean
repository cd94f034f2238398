/- What the law FillApart's loops keep while they write over what was filled: the boxes, the memory below, the shape of the rows. -/
import Derived.Test.YtnbnaflhijfamaaFillShape
namespace Go.Proofs.Ytnbnaflhijfamaa.FillSpoil
open Go.RowKit Go.Proofs.YtnbnaflhijfamaaW.PrintWords Go.Proofs.YtnbnaflhijfamaaW.PrintMore Go.Proofs.Ytnbnaflhijfamaa.PFillAll Go.Proofs.Ytnbnaflhijfamaa.FillShape
set_option linter.unusedVariables false

def R9 (b : Nat) (W : World) (A : Option Addr) (n : Nat) : Prop := Row 9 1 (fun _ _ _ => True) b W A n
def R31 (b : Nat) (W : World) (A : Option Addr) (n : Nat) : Prop := Row 31 10 (fun _ _ _ => True) b W A n
def R37 (b : Nat) (W : World) (A : Option Addr) (n : Nat) : Prop := Row 37 5 (fun W _ u => S9 b W u) b W A n
def R34 (b : Nat) (W : World) (A : Option Addr) (n : Nat) : Prop := Row 34 5 (fun W j u => j % 5 = 4 → S37_ b W u) b W A n
variable {w W5 W W' : World} {b : Nat} {A : Option Addr} {n : Nat}
theorem R9.keep (h : R9 b W A n) (k : Keep W W') : R9 b W' A n := by
  obtain ⟨A', n', c', e, hr⟩ := S9.keep ⟨A, n, 0, rfl, h⟩ k
  injection e with e1 e2
  subst e1 e2
  exact hr
theorem R31.keep (h : R31 b W A n) (k : Keep W W') : R31 b W' A n := by
  obtain ⟨A', n', c', e, hr⟩ := S31_.keep ⟨A, n, 0, rfl, h⟩ k
  injection e with e1 e2
  subst e1 e2
  exact hr
theorem R37.keep (h : R37 b W A n) (k : Keep W W') : R37 b W' A n := by
  obtain ⟨A', n', c', e, hr⟩ := S37_.keep ⟨A, n, 0, rfl, h⟩ k
  injection e with e1 e2
  subst e1 e2
  exact hr
theorem R34.keep (h : R34 b W A n) (k : Keep W W') : R34 b W' A n := by
  obtain ⟨A', n', c', e, hr⟩ := S34_.keep ⟨A, n, 0, rfl, h⟩ k
  injection e with e1 e2
  subst e1 e2
  exact hr
theorem rise2 {n i : Nat} (h : i < n) (hn : n ≤ 9223372036854775807) : Value.int .i64 (wrap64 ((i : Int) + 1)) = Value.int .i64 ((i + 1 : Nat) : Int) := by
  have hw : wrap64 ((i : Int) + 1) = ((i + 1 : Nat) : Int) := by unfold wrap64; omega
  rw [hw]
theorem fall2 {n i : Nat} (h : i < n) (hn : n ≤ 9223372036854775807) : n - (intOf (Value.int .i64 (wrap64 ((i : Int) + 1)))).toNat < n - (intOf (Value.int .i64 (i : Int))).toNat := by
  have hw : wrap64 ((i : Int) + 1) = ((i + 1 : Nat) : Int) := by unfold wrap64; omega
  rw [hw]
  show n - (((i + 1 : Nat) : Int)).toNat < n - ((i : Int)).toNat
  rw [Int.toNat_natCast, Int.toNat_natCast]
  omega
/-- The state: boxes of configurations (type 25), the memory of the call and of what came before the filling below, the rows of levels and of schemas in shape. -/
structure Z (w W5 W : World) (l : List (Nat × Array Value)) (A4 : Option Addr) (n4 : Nat) (A5 : Option Addr) (n5 : Nat) : Prop where
  hb : ∀ p ∈ l, W.heap[p.1]? = some (.cells p.2 25 (0, 0))
  hB : Below w.heap.size w W
  hB5 : Below W5.heap.size W5 W
  r31 : R31 W5.heap.size W A4 n4
  r34 : R34 W5.heap.size W A5 n5
  le : w.heap.size ≤ W5.heap.size
variable {l : List (Nat × Array Value)} {A4 A5 : Option Addr} {n4 n5 : Nat}
theorem Z.below (h : Z w W5 W l A4 n4 A5 n5) (hb : Below W.heap.size W W') : Z w W5 W' l A4 n4 A5 n5 :=
  ⟨fun p hp => blk_below (h.hb p hp) hb, below_step h.hB hb, below_step h.hB5 hb, h.r31.keep (Keep.below hb), h.r34.keep (Keep.below hb), h.le⟩
/-- A block of type t of the filled memory. -/
structure Spot (W5 W : World) (g t m : Nat) : Prop where
  out : ∃ cs : Array Value, W.heap[g]? = some (.cells cs t (0, 0)) ∧ m ≤ cs.size
  le : W5.heap.size ≤ g
variable {g t m : Nat}
theorem Spot.cell (h : Spot W5 W g t m) (j : Nat) (hj : j < m) : ∃ u, W.cell? ⟨g, j, none⟩ = some u := by
  obtain ⟨cs, h1, h2⟩ := h.out
  exact ⟨_, (blk_cell h1 j).trans (Array.getElem?_eq_getElem (by omega))⟩
theorem Spot.froz (h : Spot W5 W g t m) (j : Nat) : W.frozen? ⟨g, j, none⟩ = false := by
  obtain ⟨cs, h1, h2⟩ := h.out
  exact blk_frozen h1 j
theorem Spot.set (h : Spot W5 W g t m) (j : Nat) (u : Value) : Spot W5 (W.setCell ⟨g, j, none⟩ u) g t m := by
  obtain ⟨cs, h1, h2⟩ := h.out
  exact ⟨⟨_, blk_set h1 j u, by simpa using h2⟩, h.le⟩
theorem Spot.keep (h : Spot W5 W g t m) (j : Nat) (u : Value) (h37 : t = 37 → u = nilV) (h34 : t = 34 → j % 5 = 4 → u = nilV) : Keep W (W.setCell ⟨g, j, none⟩ u) := by
  obtain ⟨cs, h1, h2⟩ := h.out
  exact Keep.set h1 h37 h34
theorem Spot.far {g' t' : Nat} {cs' : Array Value} (h : Spot W5 W g t m) (hb : W.heap[g']? = some (.cells cs' t' (0, 0))) (ht : t' ≠ t) (j : Nat) (u : Value) : (W.setCell ⟨g, j, none⟩ u).heap[g']? = some (.cells cs' t' (0, 0)) := by
  obtain ⟨cs, h1, h2⟩ := h.out
  exact blk_far hb (blk_ne hb h1 ht) u
theorem Z.set (h : Z w W5 W l A4 n4 A5 n5) (s : Spot W5 W g t m) (h25 : 25 ≠ t) (j : Nat) (u : Value) (h37 : t = 37 → u = nilV) (h34 : t = 34 → j % 5 = 4 → u = nilV) : Z w W5 (W.setCell ⟨g, j, none⟩ u) l A4 n4 A5 n5 :=
  ⟨fun p hp => s.far (h.hb p hp) h25 j u, below_set h.hB (Nat.le_trans h.le s.le), below_set h.hB5 s.le, h.r31.keep (s.keep j u h37 h34), h.r34.keep (s.keep j u h37 h34), h.le⟩
/-- State and spot. -/
structure ZS (w W5 W : World) (l : List (Nat × Array Value)) (A4 : Option Addr) (n4 : Nat) (A5 : Option Addr) (n5 : Nat) (g t m : Nat) : Prop where
  z : Z w W5 W l A4 n4 A5 n5
  s : Spot W5 W g t m
theorem ZS.set (h : ZS w W5 W l A4 n4 A5 n5 g t m) (h25 : 25 ≠ t) (j : Nat) (u : Value) (h37 : t = 37 → u = nilV) (h34 : t = 34 → j % 5 = 4 → u = nilV) : ZS w W5 (W.setCell ⟨g, j, none⟩ u) l A4 n4 A5 n5 g t m :=
  ⟨h.z.set h.s h25 j u h37 h34, h.s.set j u⟩
/-- The state inside a schema: its rules' slice where it was read, the rules in shape. -/
structure Y (w W5 W : World) (l : List (Nat × Array Value)) (A4 : Option Addr) (n4 : Nat) (A5 : Option Addr) (n5 : Nat) (g i : Nat) (Ar : Option Addr) (nr cr : Nat) : Prop where
  z : Z w W5 W l A4 n4 A5 n5
  p : ∃ cs : Array Value, W.heap[g]? = some (.cells cs 34 (0, 0)) ∧ cs[i * 5 + 4]? = some (.slice Ar nr cr)
  r37 : R37 W5.heap.size W Ar nr
variable {i nr cr : Nat} {Ar : Option Addr}
theorem Y.cell (h : Y w W5 W l A4 n4 A5 n5 g i Ar nr cr) : W.cell? ⟨g, i * 5 + 4, none⟩ = some (.slice Ar nr cr) := by
  obtain ⟨cs, h1, h2⟩ := h.p
  exact (blk_cell h1 _).trans h2
theorem Y.below (h : Y w W5 W l A4 n4 A5 n5 g i Ar nr cr) (hb : Below W.heap.size W W') : Y w W5 W' l A4 n4 A5 n5 g i Ar nr cr := by
  obtain ⟨cs, h1, h2⟩ := h.p
  exact ⟨h.z.below hb, ⟨cs, blk_below h1 hb, h2⟩, h.r37.keep (Keep.below hb)⟩
theorem Y.set {g' : Nat} (h : Y w W5 W l A4 n4 A5 n5 g i Ar nr cr) (s : Spot W5 W g' t m) (h25 : 25 ≠ t) (h34 : 34 ≠ t) (j : Nat) (u : Value) (h37 : t = 37 → u = nilV) : Y w W5 (W.setCell ⟨g', j, none⟩ u) l A4 n4 A5 n5 g i Ar nr cr := by
  obtain ⟨cs, h1, h2⟩ := h.p
  have h34' : t = 34 → j % 5 = 4 → u = nilV := fun e => absurd e.symm h34
  exact ⟨h.z.set s h25 j u h37 h34', ⟨cs, s.far h1 h34 j u, h2⟩, h.r37.keep (s.keep j u h37 h34')⟩
structure YS (w W5 W : World) (l : List (Nat × Array Value)) (A4 : Option Addr) (n4 : Nat) (A5 : Option Addr) (n5 : Nat) (g i : Nat) (Ar : Option Addr) (nr cr : Nat) (g' t m : Nat) : Prop where
  y : Y w W5 W l A4 n4 A5 n5 g i Ar nr cr
  s : Spot W5 W g' t m
theorem YS.set {g' : Nat} (h : YS w W5 W l A4 n4 A5 n5 g i Ar nr cr g' t m) (h25 : 25 ≠ t) (h34 : 34 ≠ t) (j : Nat) (u : Value) (h37 : t = 37 → u = nilV) : YS w W5 (W.setCell ⟨g', j, none⟩ u) l A4 n4 A5 n5 g i Ar nr cr g' t m :=
  ⟨h.y.set h.s h25 h34 j u h37, h.s.set j u⟩
/-- The state inside a rule: its five lists' slices in a block of their own, each a row of texts in shape. -/
structure X (w W5 W : World) (l : List (Nat × Array Value)) (A4 : Option Addr) (n4 : Nat) (A5 : Option Addr) (n5 : Nat) (g i : Nat) (Ar : Option Addr) (nr cr : Nat) (g9 : Nat) (cs9 : Array Value) : Prop where
  y : Y w W5 W l A4 n4 A5 n5 g i Ar nr cr
  b9 : W.heap[g9]? = some (.cells cs9 35 (0, 0))
  q : ∀ q, q < 5 → ∃ A n c, cs9[q]? = some (.slice A n c) ∧ R9 W5.heap.size W A n
variable {g9 : Nat} {cs9 : Array Value}
theorem X.below (h : X w W5 W l A4 n4 A5 n5 g i Ar nr cr g9 cs9) (hb : Below W.heap.size W W') : X w W5 W' l A4 n4 A5 n5 g i Ar nr cr g9 cs9 :=
  ⟨h.y.below hb, blk_below h.b9 hb, fun q hq => by
    obtain ⟨A, n, c, h1, h2⟩ := h.q q hq
    exact ⟨A, n, c, h1, h2.keep (Keep.below hb)⟩⟩
theorem X.set9 {g' : Nat} (h : X w W5 W l A4 n4 A5 n5 g i Ar nr cr g9 cs9) (s : Spot W5 W g' 9 m) (j : Nat) (u : Value) : X w W5 (W.setCell ⟨g', j, none⟩ u) l A4 n4 A5 n5 g i Ar nr cr g9 cs9 :=
  ⟨h.y.set s (by decide) (by decide) j u (fun e => absurd e (by decide)), s.far h.b9 (by decide) j u, fun q hq => by
    obtain ⟨A, n, c, h1, h2⟩ := h.q q hq
    exact ⟨A, n, c, h1, h2.keep (s.keep j u (fun e => absurd e (by decide)) (fun e => absurd e (by decide)))⟩⟩
end Go.Proofs.Ytnbnaflhijfamaa.FillSpoil
