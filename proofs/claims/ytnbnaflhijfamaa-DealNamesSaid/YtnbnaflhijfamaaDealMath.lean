/- Hands of cards: how many there are, how a number deals one, and what a hand is told as; plain lists and numbers without the program; each lemma names its own conditions. -/
import Derived.Test.YtnbnaflhijfamaaWMore
namespace Go.Proofs.Ytnbnaflhijfamaa.DealMath
open Go.RowKit Go.Proofs.YtnbnaflhijfamaaW.PrintWords

/-- How many hands of n cards there are of a deck of d. -/
def prodN (d : Nat) : Nat → Nat
  | 0 => 1
  | n + 1 => prodN d n * (d - n)
theorem prodN_le {d : Nat} (hd : d ≤ 64) : ∀ n, prodN d n ≤ 64 ^ n
  | 0 => Nat.le_refl _
  | n + 1 => by rw [Nat.pow_succ]; exact Nat.mul_le_mul (prodN_le hd n) (by omega)
theorem prodN_small {d n : Nat} (hd : d ≤ 64) (hn : n ≤ 8) : prodN d n ≤ 281474976710656 := by
  refine Nat.le_trans (prodN_le hd n) ?_
  exact Nat.le_trans (Nat.pow_le_pow_right (by decide) hn) (by decide)

/-- What is told of how many hands there are: the number and the error. -/
def handsV (deck n : Int) : Int × Int :=
  if deck < 1 ∨ deck > 64 ∨ n < 1 ∨ n > 8 then (0, 1) else if n > deck then (0, 8) else if (prodN deck.toNat n.toNat : Int) > 1099511627776 then (0, 10) else ((prodN deck.toNat n.toNat : Int), 0)

/-- The hand of n cards that h deals out of the cards that are left. -/
def dealL : Nat → List Int → Nat → List Int
  | _, _, 0 => []
  | h, left, n + 1 => left.getD (h % left.length) 0 :: dealL (h / left.length) (left.eraseIdx (h % left.length)) n
/-- A deck. -/
def deckL (d : Nat) : List Int := (List.range d).map fun (i : Nat) => (i : Int)
theorem deckL_length (d : Nat) : (deckL d).length = d := by simp [deckL]
theorem dealL_length : ∀ (n h : Nat) (left : List Int), (dealL h left n).length = n
  | 0, _, _ => rfl
  | n + 1, h, left => by simp [dealL, dealL_length n]

/-- So many numbers counted, zeros behind. -/
def countL (k d : Nat) : List Int := deckL k ++ List.replicate (d - k) 0
theorem countL_zero (d : Nat) : countL 0 d = List.replicate d 0 := by simp [countL, deckL]
theorem countL_all (d : Nat) : countL d d = deckL d := by simp [countL]
theorem countL_length {k d : Nat} (h : k ≤ d) : (countL k d).length = d := by simp [countL, deckL]; omega
theorem countL_set {k d : Nat} (h : k < d) : (countL k d).set k (k : Int) = countL (k + 1) d := by
  unfold countL deckL
  rw [List.set_append, if_neg (by simp), show d - k = (d - (k + 1)) + 1 by omega]
  simp [List.replicate_succ, List.range_succ]

/-- The hand so far, zeros behind. -/
def handL (h : Nat) (left : List Int) (i n : Nat) : List Int := dealL h left i ++ List.replicate (n - i) 0
/-- What is left, and the number, behind some cards. -/
def leftL : Nat → List Int → Nat → List Int
  | _, left, 0 => left
  | h, left, n + 1 => leftL (h / left.length) (left.eraseIdx (h % left.length)) n
def restN : Nat → List Int → Nat → Nat
  | h, _, 0 => h
  | h, left, n + 1 => restN (h / left.length) (left.eraseIdx (h % left.length)) n
theorem leftL_succ : ∀ (n h : Nat) (left : List Int), leftL h left (n + 1) = (leftL h left n).eraseIdx (restN h left n % (leftL h left n).length)
  | 0, _, _ => rfl
  | n + 1, _, _ => by rw [leftL, leftL_succ n]; rfl
theorem restN_succ : ∀ (n h : Nat) (left : List Int), restN h left (n + 1) = restN h left n / (leftL h left n).length
  | 0, _, _ => rfl
  | n + 1, _, _ => by rw [restN, restN_succ n]; rfl
theorem dealL_succ : ∀ (n h : Nat) (left : List Int), dealL h left (n + 1) = dealL h left n ++ [(leftL h left n).getD (restN h left n % (leftL h left n).length) 0]
  | 0, _, _ => rfl
  | n + 1, h, left => by
    rw [dealL, dealL_succ n]
    rfl
theorem leftL_length : ∀ (n h : Nat) (left : List Int), n ≤ left.length → (leftL h left n).length = left.length - n
  | 0, _, _, _ => rfl
  | n + 1, h, left, hn => by
    have hp : 0 < left.length := by omega
    have := Nat.mod_lt h hp
    rw [leftL, leftL_length n _ _ (by rw [List.length_eraseIdx_of_lt this]; omega), List.length_eraseIdx_of_lt this]
    omega
theorem restN_le : ∀ (n h : Nat) (left : List Int), restN h left n ≤ h
  | 0, _, _ => Nat.le_refl _
  | n + 1, _, _ => Nat.le_trans (restN_le n _ _) (Nat.div_le_self _ _)
end Go.Proofs.Ytnbnaflhijfamaa.DealMath
