/- What the program's width.Seats answers, in plain arithmetic, at whole numbers of 64 bits; no other condition. -/
import Derived.Test.YteiejbkohnokaaaOwnWidthA
import Derived.Test.YteiejbkohnokaaaWidthMath
namespace Go.Proofs.Yteiejbkohnokaaa.SeatsIs
open Go.RowKit Go.Proofs.Yteiejbkohnokaaa.PWidthAll Go.Proofs.YteiejbkohnokaaaW.PrintWords Go.Proofs.YteiejbkohnokaaaW.PrintLast Go.Proofs.YteiejbkohnokaaaW.PrintMore Go.Proofs.Yteiejbkohnokaaa.WidthMath

def delcolW : List UInt8 := [100, 101, 108, 101, 116, 101, 99, 111, 108, 108, 101, 99, 116, 105, 111, 110]
def listW : List UInt8 := [108, 105, 115, 116]
def createW : List UInt8 := [99, 114, 101, 97, 116, 101]
def updateW : List UInt8 := [117, 112, 100, 97, 116, 101]
def patchW : List UInt8 := [112, 97, 116, 99, 104]
def deleteW : List UInt8 := [100, 101, 108, 101, 116, 101]

/-- The number of a verb's kind. -/
def cls (v : List UInt8) : Nat := if v = delcolW then 2 else if v = listW then 1 else if v = createW then 3 else if v = updateW then 3 else if v = patchW then 3 else if v = deleteW then 3 else 0
/-- The seats of a kind: P for a seat, M at the most, O objects, with a space or without. -/
def seatsI (c : Nat) (P M O : Int) (sp : Bool) : Int :=
  if c = 2 then mn (1 + mn (mx (uI P sp O) 1) M) M else if c = 1 then mn (mn (mx (uI P sp O) 1) M) M else if c = 3 then mn (if O > P then 2 else 1) M else mn 1 M
def spOf (s : ByteArray) : Bool := decide (s.toList ≠ ([] : List UInt8))
def perOf (a : Int) : Int := mx a 1
def mostOf (a : Int) : Int := mn (mx a 1) 16
def objOf (a : Int) : Int := mx a 0
theorem per_pos (a : Int) : 1 ≤ perOf a := by unfold perOf mx; split <;> omega
theorem most_range (a : Int) : 1 ≤ mostOf a ∧ mostOf a ≤ 16 := by unfold mostOf mn mx; split <;> split <;> omega
theorem obj_nonneg (a : Int) : 0 ≤ objOf a := by unfold objOf mx; split <;> omega
theorem obj_le {a : Int} (h : a ≤ 9223372036854775807) : objOf a ≤ 9223372036854775807 := by unfold objOf mx; split <;> omega

theorem up_f {n b : Int} (hn : 0 ≤ n) (hn1 : n ≤ 9223372036854775807) (hb : 1 ≤ b) : width_up.f n b = some (tI b n) := up_wrap hn hn1 hb
theorem mn_range {a M : Int} (ha : 1 ≤ a) (h1 : 1 ≤ M) : 1 ≤ mn a M ∧ mn a M ≤ M := by unfold mn; split <;> omega
theorem mx_one (a : Int) : 1 ≤ mx a 1 := by unfold mx; split <;> omega

theorem list_is (k : Nat) (P M O x : Int) (u : ByteArray) (g : List ByteArray) (v r s : ByteArray) (o : Int) (hP : 1 ≤ P) (hM : 1 ≤ M) (hM1 : M ≤ 16) (hO : 0 ≤ O) (hO1 : O ≤ 9223372036854775807) (hx : 0 ≤ x) (hx1 : x ≤ 1) :
    width_Seats.j0 (k + 1) P M O x u g v r s o = some (mn (x + mn (mx (uI P (spOf s) O) 1) M) M) := by
  simp only [width_Seats.j0]
  have t0 := tI_nonneg hP O
  have t1 := tI_le (P := P) hO
  have w : ∀ z : Int, wrap64 (x + mn (mx z 1) M) = x + mn (mx z 1) M := by
    intro z
    have := mn_range (mx_one z) hM
    unfold wrap64; omega
  rw [up_f hO hO1 hP]
  simp only [Option.bind_some]
  by_cases e : s.toList = ([] : List UInt8)
  · rw [if_pos e, w]
    have : spOf s = false := by unfold spOf; rw [e]; rfl
    rw [this]
    rfl
  · rw [if_neg e, up_f t0 (by omega) (by decide)]
    simp only [Option.bind_some]
    rw [w, two_is t0]
    have : spOf s = true := by unfold spOf; exact decide_eq_true e
    rw [this]
    rfl

theorem seats_is (k : Nat) (a b : Int) (u : ByteArray) (g : List ByteArray) (v r s : ByteArray) (o : Int) (ho : o ≤ 9223372036854775807) :
    width_Seats.f (k + 1) a b u g v r s o = some (seatsI (cls v.toList) (perOf a) (mostOf b) (objOf o) (spOf s)) := by
  have hP := per_pos a
  have hM := most_range b
  have hO := obj_nonneg o
  have hO1 := obj_le ho
  unfold width_Seats.f cls
  change (if v.toList = delcolW then (width_Seats.j0 (k + 1) (perOf a) (mostOf b) (objOf o) (0 + 1) u g v r s o) else (if v.toList = listW then (width_Seats.j0 (k + 1) (perOf a) (mostOf b) (objOf o) 0 u g v r s o) else (if v.toList = createW then (if objOf o > perOf a then (some (mn ((0 + 1) + 1) (mostOf b))) else (some (mn (0 + 1) (mostOf b)))) else (if v.toList = updateW then (if objOf o > perOf a then (some (mn ((0 + 1) + 1) (mostOf b))) else (some (mn (0 + 1) (mostOf b)))) else (if v.toList = patchW then (if objOf o > perOf a then (some (mn ((0 + 1) + 1) (mostOf b))) else (some (mn (0 + 1) (mostOf b)))) else (if v.toList = deleteW then (if objOf o > perOf a then (some (mn ((0 + 1) + 1) (mostOf b))) else (some (mn (0 + 1) (mostOf b)))) else (some (mn (0 + 1) (mostOf b))))))))) = _
  have three : (if objOf o > perOf a then (some (mn ((0 + 1) + 1) (mostOf b))) else (some (mn (0 + 1) (mostOf b)))) = some (seatsI 3 (perOf a) (mostOf b) (objOf o) (spOf s)) := by
    unfold seatsI
    simp only [Nat.reduceEqDiff, if_false, if_true]
    split <;> rfl
  by_cases h1 : v.toList = delcolW
  · rw [if_pos h1, if_pos h1, list_is k _ _ _ _ u g v r s o hP hM.1 hM.2 hO hO1 (by decide) (by decide)]; rfl
  rw [if_neg h1, if_neg h1]
  by_cases h2 : v.toList = listW
  · rw [if_pos h2, if_pos h2, list_is k _ _ _ _ u g v r s o hP hM.1 hM.2 hO hO1 (by decide) (by decide), Int.zero_add]; rfl
  rw [if_neg h2, if_neg h2]
  by_cases h3 : v.toList = createW
  · rw [if_pos h3, if_pos h3, three]
  rw [if_neg h3, if_neg h3]
  by_cases h4 : v.toList = updateW
  · rw [if_pos h4, if_pos h4, three]
  rw [if_neg h4, if_neg h4]
  by_cases h5 : v.toList = patchW
  · rw [if_pos h5, if_pos h5, three]
  rw [if_neg h5, if_neg h5]
  by_cases h6 : v.toList = deleteW
  · rw [if_pos h6, if_pos h6, three]
  rw [if_neg h6, if_neg h6]; rfl

theorem seatsI_range (c : Nat) {P M O : Int} (sp : Bool) (hM : 1 ≤ M) : 1 ≤ seatsI c P M O sp ∧ seatsI c P M O sp ≤ M := by
  have h := mn_range (mx_one (uI P sp O)) hM
  unfold seatsI
  split
  · exact mn_range (by omega) hM
  split
  · exact mn_range h.1 hM
  split
  · exact mn_range (by split <;> omega) hM
  · exact mn_range (by omega) hM

theorem awake_is (k : Nat) : usherlaw17_awake.f (k + 1) = some true := by
  unfold usherlaw17_awake.f
  rw [seats_is k 100 10 _ _ _ _ _ 250 (by decide)]
  decide +kernel
end Go.Proofs.Yteiejbkohnokaaa.SeatsIs
