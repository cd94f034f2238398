/- Quotients rounded up, and how many seats of some objects a list takes; plain arithmetic without the program; each lemma names its own bounds. -/
import Derived.Test.YteiejbkohnokaaaWWords
import Derived.Test.YteiejbkohnokaaaWMore
namespace Go.Proofs.Yteiejbkohnokaaa.WidthMath
open Go.RowKit Go.Proofs.YteiejbkohnokaaaW.PrintWords Go.Proofs.YteiejbkohnokaaaW.PrintMore

/-- How many parts of P there are in x, a broken one counted whole; of nothing none. -/
def tI (P x : Int) : Int := if x ≤ 0 then 0 else (x - 1) / P + 1
/-- The same, two for one where there is a space. -/
def uI (P : Int) (sp : Bool) (x : Int) : Int := if sp = true then (tI P x + 1) / 2 else tI P x

theorem split_at (x P : Int) : x = P * (x / P) + x % P := (Int.mul_ediv_add_emod x P).symm
theorem div_add (a b P : Int) (hP : 0 < P) : (a + b * P) / P = a / P + b := Int.add_mul_ediv_right a b (by omega)

theorem tI_step {P x : Int} (hP : 1 ≤ P) (hx : 0 < x) : tI P x = 1 + tI P (x - P) := by
  unfold tI
  rw [if_neg (by omega)]
  by_cases h : x - P ≤ 0
  · rw [if_pos h, Int.ediv_eq_zero_of_lt (by omega) (by omega)]; omega
  · rw [if_neg h]
    have := div_add (x - P - 1) 1 P (by omega)
    rw [show x - P - 1 + 1 * P = x - 1 by omega] at this
    omega
theorem tI_nonneg {P : Int} (hP : 1 ≤ P) (x : Int) : 0 ≤ tI P x := by
  unfold tI
  split
  · omega
  · have := Int.ediv_nonneg (show 0 ≤ x - 1 by omega) (show 0 ≤ P by omega)
    omega
theorem tI_pos {P x : Int} (hP : 1 ≤ P) (hx : 0 < x) : 1 ≤ tI P x := by
  rw [tI_step hP hx]; have := tI_nonneg hP (x - P); omega
theorem tI_zero {P x : Int} (hx : x ≤ 0) : tI P x = 0 := if_pos hx
theorem tI_le {P x : Int} (hx : 0 ≤ x) : tI P x ≤ x := by
  unfold tI
  split
  · exact hx
  · have := Int.ediv_le_self (a := x - 1) P (by omega)
    omega
theorem tI_mono {P x y : Int} (hP : 1 ≤ P) (h : x ≤ y) : tI P x ≤ tI P y := by
  unfold tI
  split
  · exact tI_nonneg hP y
  · rw [if_neg (by omega)]
    have := Int.ediv_le_ediv (show 0 < P by omega) (show x - 1 ≤ y - 1 by omega)
    omega
theorem tI_anti {P R x : Int} (hP : 1 ≤ P) (h : P ≤ R) : tI R x ≤ tI P x := by
  unfold tI
  split
  · omega
  · have h0 : 0 ≤ (x - 1) / R := Int.ediv_nonneg (by omega) (by omega)
    have h1 : R * ((x - 1) / R) ≤ x - 1 := Int.mul_ediv_self_le (by omega)
    have h2 : P * ((x - 1) / R) ≤ R * ((x - 1) / R) := Int.mul_le_mul_of_nonneg_right h h0
    have h3 : (x - 1) / R ≤ (x - 1) / P := by
      rw [Int.le_ediv_iff_mul_le (by omega), Int.mul_comm]
      omega
    omega

/-- The rounded quotient of the program. -/
theorem up_is {n b : Int} (hn : 0 ≤ n) (hb : 1 ≤ b) : (if Int.tmod n b > 0 then Int.tdiv n b + 1 else Int.tdiv n b) = tI b n := by
  rw [Int.tmod_eq_emod_of_nonneg hn, Int.tdiv_eq_ediv_of_nonneg hn]
  have e := split_at n b
  have r0 := Int.emod_nonneg n (show b ≠ 0 by omega)
  have r1 := Int.emod_lt_of_pos n (show 0 < b by omega)
  unfold tI
  by_cases h : n ≤ 0
  · have : n = 0 := by omega
    subst this
    simp
  · rw [if_neg h]
    by_cases r : n % b > 0
    · rw [if_pos r]
      have := div_add (n % b - 1) (n / b) b (by omega)
      rw [show n % b - 1 + n / b * b = n - 1 by rw [Int.mul_comm (n / b) b]; omega, show (n % b - 1) / b = 0 from Int.ediv_eq_zero_of_lt (by omega) (by omega)] at this
      omega
    · rw [if_neg r]
      have := div_add (b - 1) (n / b - 1) b (by omega)
      rw [show b - 1 + (n / b - 1) * b = n - 1 by rw [Int.sub_mul, Int.one_mul, Int.mul_comm (n / b) b]; omega, show (b - 1) / b = 0 from Int.ediv_eq_zero_of_lt (by omega) (by omega)] at this
      omega
theorem up_wrap {n b : Int} (hn : 0 ≤ n) (hn1 : n ≤ 9223372036854775807) (hb : 1 ≤ b) :
    (if b = 0 then (none : Option Int) else (if (Int.tmod n b) > 0 then (some (wrap64 ((wrap64 (Int.tdiv n b)) + 1))) else (some (wrap64 (Int.tdiv n b))))) = some (tI b n) := by
  have k := up_is hn hb
  have l := tI_le (P := b) hn
  have m := tI_nonneg hb n
  have q0 := Int.ediv_nonneg hn (show 0 ≤ b by omega)
  have q1 := Int.ediv_le_self b hn
  have q2 : Int.tdiv n b = n / b := Int.tdiv_eq_ediv_of_nonneg hn
  rw [if_neg (by omega)]
  rw [q2] at k ⊢
  have w1 : wrap64 (n / b) = n / b := by unfold wrap64; omega
  rw [w1]
  split at k
  · rename_i h
    rw [if_pos h]
    have w2 : wrap64 (n / b + 1) = n / b + 1 := by unfold wrap64; omega
    rw [w2, k]
  · rename_i h
    rw [if_neg h, k]
theorem two_is {n : Int} (hn : 0 ≤ n) : tI 2 n = (n + 1) / 2 := by unfold tI; split <;> omega

theorem uI_zero {P x : Int} (sp : Bool) (hx : x ≤ 0) : uI P sp x = 0 := by unfold uI; rw [tI_zero hx]; split <;> rfl
theorem uI_one {P x : Int} (hP : 1 ≤ P) (hx : 0 < x) : uI P false x = 1 + uI P false (x - P) := tI_step hP hx
theorem uI_half {P x : Int} (hP : 1 ≤ P) (hx : 0 < x) (h : x - P ≤ 0) : uI P true x = 1 := by
  unfold uI
  rw [if_pos rfl, tI_step hP hx, tI_zero h]; rfl
theorem uI_two {P x : Int} (hP : 1 ≤ P) (hx : 0 < x) (h : 0 < x - P) : uI P true x = 1 + uI P true (x - P - P) := by
  unfold uI
  rw [if_pos rfl, if_pos rfl, tI_step hP hx, tI_step hP h]; omega
theorem uI_nonneg {P : Int} (hP : 1 ≤ P) (sp : Bool) (x : Int) : 0 ≤ uI P sp x := by
  have := tI_nonneg hP x
  unfold uI; split <;> omega
theorem uI_pos {P x : Int} (hP : 1 ≤ P) (sp : Bool) (hx : 0 < x) : 1 ≤ uI P sp x := by
  have := tI_pos hP hx
  unfold uI; split <;> omega
theorem uI_le {P x : Int} (hP : 1 ≤ P) (sp : Bool) (hx : 0 ≤ x) : uI P sp x ≤ x := by
  have := tI_le (P := P) hx
  have := tI_nonneg hP x
  unfold uI; split <;> omega
theorem uI_mono {P x y : Int} (hP : 1 ≤ P) (sp : Bool) (h : x ≤ y) : uI P sp x ≤ uI P sp y := by
  have := tI_mono hP h
  unfold uI; split <;> omega
theorem uI_anti {P R x : Int} (hP : 1 ≤ P) (sp : Bool) (h : P ≤ R) : uI R sp x ≤ uI P sp x := by
  have := tI_anti (x := x) hP h
  unfold uI; split <;> omega
theorem uI_space {P x : Int} (hP : 1 ≤ P) : uI P true x ≤ uI P false x := by
  have := tI_nonneg hP x
  unfold uI; simp; omega
end Go.Proofs.Yteiejbkohnokaaa.WidthMath
