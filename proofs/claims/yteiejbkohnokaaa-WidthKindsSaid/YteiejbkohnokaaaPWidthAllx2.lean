-- PRINTED BY print.sh 35421559b90ae4d0a3588c463048766b98c2df88dd9212a6774a882060cdf62d: not written by this session
import Derived.Test.YteiejbkohnokaaaPWidthAllx0
namespace Go.Proofs.Yteiejbkohnokaaa.PWidthAll
open Go.RowKit Go.Proofs.YteiejbkohnokaaaW.PrintWords Go.Proofs.YteiejbkohnokaaaW.PrintLast Go.Proofs.YteiejbkohnokaaaW.PrintMore
attribute [local go_sem] max2_int min2_int max_two min_two max_three min_three max_four min_four   -- for this text's walks alone
set_option linter.unusedVariables false
set_option linter.unusedSimpArgs false

/-! ### usherref17_Seats: function 29 -/
mutual
def usherref17_Seats.j0 : Nat → Int → Int → ByteArray → List ByteArray → ByteArray → ByteArray → ByteArray → Int → Option (Int)
  | 0, _, _, _, _, _, _, _, _ => none
  | k + 1, x0, x1, x108000, x108001, x108002, x108003, x108004, x108005 => if x1 < 1 then (usherref17_Seats.j1 k x0 1 x108000 x108001 x108002 x108003 x108004 x108005) else (usherref17_Seats.j1 k x0 x1 x108000 x108001 x108002 x108003 x108004 x108005)
def usherref17_Seats.j1 : Nat → Int → Int → ByteArray → List ByteArray → ByteArray → ByteArray → ByteArray → Int → Option (Int)
  | 0, _, _, _, _, _, _, _, _ => none
  | k + 1, x0, x1, x108000, x108001, x108002, x108003, x108004, x108005 => if x1 > 16 then (usherref17_Seats.j2 k x0 16 x108000 x108001 x108002 x108003 x108004 x108005) else (usherref17_Seats.j2 k x0 x1 x108000 x108001 x108002 x108003 x108004 x108005)
def usherref17_Seats.j2 : Nat → Int → Int → ByteArray → List ByteArray → ByteArray → ByteArray → ByteArray → Int → Option (Int)
  | 0, _, _, _, _, _, _, _, _ => none
  | k + 1, x0, x1, x108000, x108001, x108002, x108003, x108004, x108005 => if x108002.toList = ([108, 105, 115, 116] : List UInt8) then (usherref17_Seats.j3 k x0 x1 x108005 0 x108002 (x108002.toList == ([108, 105, 115, 116] : List UInt8)) x108000 x108001 x108002 x108003 x108004 x108005) else (usherref17_Seats.j3 k x0 x1 x108005 0 x108002 (x108002.toList == ([100, 101, 108, 101, 116, 101, 99, 111, 108, 108, 101, 99, 116, 105, 111, 110] : List UInt8)) x108000 x108001 x108002 x108003 x108004 x108005)
def usherref17_Seats.j3 : Nat → Int → Int → Int → Int → ByteArray → Bool → ByteArray → List ByteArray → ByteArray → ByteArray → ByteArray → Int → Option (Int)
  | 0, _, _, _, _, _, _, _, _, _, _, _, _ => none
  | k + 1, x0, x1, x7, x8, x18, x19, x108000, x108001, x108002, x108003, x108004, x108005 => if x19 = true then (usherref17_Seats.l0 k x0 x1 x7 x8 x108000 x108001 x108002 x108003 x108004 x108005) else (if x18.toList = ([99, 114, 101, 97, 116, 101] : List UInt8) then (usherref17_Seats.j7 k x0 x1 x7 (x18.toList == ([99, 114, 101, 97, 116, 101] : List UInt8))) else (if x18.toList = ([117, 112, 100, 97, 116, 101] : List UInt8) then (usherref17_Seats.j7 k x0 x1 x7 (x18.toList == ([117, 112, 100, 97, 116, 101] : List UInt8))) else (if x18.toList = ([112, 97, 116, 99, 104] : List UInt8) then (usherref17_Seats.j7 k x0 x1 x7 (x18.toList == ([112, 97, 116, 99, 104] : List UInt8))) else (usherref17_Seats.j7 k x0 x1 x7 (x18.toList == ([100, 101, 108, 101, 116, 101] : List UInt8))))))
def usherref17_Seats.l0 : Nat → Int → Int → Int → Int → ByteArray → List ByteArray → ByteArray → ByteArray → ByteArray → Int → Option (Int)
  | 0, _, _, _, _, _, _, _, _, _, _ => none
  | k + 1, x0, x1, x7, x8, x108000, x108001, x108002, x108003, x108004, x108005 => if x7 > 0 then (usherref17_Seats.j5 k x0 x1 x7 x8 (decide (x8 < x1)) x108000 x108001 x108002 x108003 x108004 x108005) else (usherref17_Seats.j5 k x0 x1 x7 x8 false x108000 x108001 x108002 x108003 x108004 x108005)
def usherref17_Seats.j5 : Nat → Int → Int → Int → Int → Bool → ByteArray → List ByteArray → ByteArray → ByteArray → ByteArray → Int → Option (Int)
  | 0, _, _, _, _, _, _, _, _, _, _, _ => none
  | k + 1, x0, x1, x7, x8, x28, x108000, x108001, x108002, x108003, x108004, x108005 => if x28 = true then (if x108004.toList = ([] : List UInt8) then (usherref17_Seats.l0 k x0 x1 (wrap64 (x7 - x0)) (wrap64 (x8 + 1)) x108000 x108001 x108002 x108003 x108004 x108005) else (if (wrap64 (x7 - x0)) > 0 then (usherref17_Seats.l0 k x0 x1 (wrap64 ((wrap64 (x7 - x0)) - x0)) (wrap64 (x8 + 1)) x108000 x108001 x108002 x108003 x108004 x108005) else (usherref17_Seats.l0 k x0 x1 (wrap64 (x7 - x0)) (wrap64 (x8 + 1)) x108000 x108001 x108002 x108003 x108004 x108005))) else (if x8 < 1 then (usherref17_Seats.j6 k x1 1 x108000 x108001 x108002 x108003 x108004 x108005) else (usherref17_Seats.j6 k x1 x8 x108000 x108001 x108002 x108003 x108004 x108005))
def usherref17_Seats.j6 : Nat → Int → Int → ByteArray → List ByteArray → ByteArray → ByteArray → ByteArray → Int → Option (Int)
  | 0, _, _, _, _, _, _, _, _ => none
  | k + 1, x1, x8, x108000, x108001, x108002, x108003, x108004, x108005 => if x108002.toList = ([100, 101, 108, 101, 116, 101, 99, 111, 108, 108, 101, 99, 116, 105, 111, 110] : List UInt8) then (if (wrap64 (x8 + 1)) > x1 then (some x1) else (some (wrap64 (x8 + 1)))) else (if x8 > x1 then (some x1) else (some x8))
def usherref17_Seats.j7 : Nat → Int → Int → Int → Bool → Option (Int)
  | 0, _, _, _, _ => none
  | k + 1, x0, x1, x7, x51 => if x51 = true then (if x7 > x0 then (if 2 > x1 then (some x1) else (some 2)) else (if 1 > x1 then (some x1) else (some 1))) else (if 1 > x1 then (some x1) else (some 1))
end
def usherref17_Seats.f (k : Nat) (a0 : Int) (a1 : Int) (a2_0 : ByteArray) (l2_1 : List ByteArray) (a2_2 : ByteArray) (a2_3 : ByteArray) (a2_4 : ByteArray) (a2_5 : Int) : Option (Int) := if a0 < 1 then (usherref17_Seats.j0 k 1 a1 a2_0 l2_1 a2_2 a2_3 a2_4 a2_5) else (usherref17_Seats.j0 k a0 a1 a2_0 l2_1 a2_2 a2_3 a2_4 a2_5)
theorem usherref17_Seats.mono_l : ∀ k, (∀ y0 y1 y2 y3 y4 y5 y6 y7, LeO (usherref17_Seats.j0 k y0 y1 y2 y3 y4 y5 y6 y7) (usherref17_Seats.j0 (k + 1) y0 y1 y2 y3 y4 y5 y6 y7)) ∧ (∀ y0 y1 y2 y3 y4 y5 y6 y7, LeO (usherref17_Seats.j1 k y0 y1 y2 y3 y4 y5 y6 y7) (usherref17_Seats.j1 (k + 1) y0 y1 y2 y3 y4 y5 y6 y7)) ∧ (∀ y0 y1 y2 y3 y4 y5 y6 y7, LeO (usherref17_Seats.j2 k y0 y1 y2 y3 y4 y5 y6 y7) (usherref17_Seats.j2 (k + 1) y0 y1 y2 y3 y4 y5 y6 y7)) ∧ (∀ y0 y1 y2 y3 y4 y5 y6 y7 y8 y9 y10 y11, LeO (usherref17_Seats.j3 k y0 y1 y2 y3 y4 y5 y6 y7 y8 y9 y10 y11) (usherref17_Seats.j3 (k + 1) y0 y1 y2 y3 y4 y5 y6 y7 y8 y9 y10 y11)) ∧ (∀ y0 y1 y2 y3 y4 y5 y6 y7 y8 y9, LeO (usherref17_Seats.l0 k y0 y1 y2 y3 y4 y5 y6 y7 y8 y9) (usherref17_Seats.l0 (k + 1) y0 y1 y2 y3 y4 y5 y6 y7 y8 y9)) ∧ (∀ y0 y1 y2 y3 y4 y5 y6 y7 y8 y9 y10, LeO (usherref17_Seats.j5 k y0 y1 y2 y3 y4 y5 y6 y7 y8 y9 y10) (usherref17_Seats.j5 (k + 1) y0 y1 y2 y3 y4 y5 y6 y7 y8 y9 y10)) ∧ (∀ y0 y1 y2 y3 y4 y5 y6 y7, LeO (usherref17_Seats.j6 k y0 y1 y2 y3 y4 y5 y6 y7) (usherref17_Seats.j6 (k + 1) y0 y1 y2 y3 y4 y5 y6 y7)) ∧ (∀ y0 y1 y2 y3, LeO (usherref17_Seats.j7 k y0 y1 y2 y3) (usherref17_Seats.j7 (k + 1) y0 y1 y2 y3))
  | 0 => ⟨fun _ _ _ _ _ _ _ _ r h => by simp [usherref17_Seats.j0] at h, fun _ _ _ _ _ _ _ _ r h => by simp [usherref17_Seats.j1] at h, fun _ _ _ _ _ _ _ _ r h => by simp [usherref17_Seats.j2] at h, fun _ _ _ _ _ _ _ _ _ _ _ _ r h => by simp [usherref17_Seats.j3] at h, fun _ _ _ _ _ _ _ _ _ _ r h => by simp [usherref17_Seats.l0] at h, fun _ _ _ _ _ _ _ _ _ _ _ r h => by simp [usherref17_Seats.j5] at h, fun _ _ _ _ _ _ _ _ r h => by simp [usherref17_Seats.j6] at h, fun _ _ _ _ r h => by simp [usherref17_Seats.j7] at h⟩
  | k + 1 => by
    obtain ⟨ih0, ih1, ih2, ih3, ih4, ih5, ih6, ih7⟩ := usherref17_Seats.mono_l k
    refine ⟨?_, ?_, ?_, ?_, ?_, ?_, ?_, ?_⟩
    · intro y0 y1 y2 y3 y4 y5 y6 y7
      unfold usherref17_Seats.j0
      repeat' first
      | (with_reducible exact ih0 _ _ _ _ _ _ _ _)
      | (with_reducible exact ih1 _ _ _ _ _ _ _ _)
      | (with_reducible exact ih2 _ _ _ _ _ _ _ _)
      | (with_reducible exact ih3 _ _ _ _ _ _ _ _ _ _ _ _)
      | (with_reducible exact ih4 _ _ _ _ _ _ _ _ _ _)
      | (with_reducible exact ih5 _ _ _ _ _ _ _ _ _ _ _)
      | (with_reducible exact ih6 _ _ _ _ _ _ _ _)
      | (with_reducible exact ih7 _ _ _ _)
      | (with_reducible exact LeO.refl _)
      | (with_reducible exact LeO.none _)
      | (with_reducible refine LeO.ite ?_ ?_)
      | (with_reducible refine LeO.bind ?_ (fun _ => ?_))
      | exact ih0 _ _ _ _ _ _ _ _
      | exact ih1 _ _ _ _ _ _ _ _
      | exact ih2 _ _ _ _ _ _ _ _
      | exact ih3 _ _ _ _ _ _ _ _ _ _ _ _
      | exact ih4 _ _ _ _ _ _ _ _ _ _
      | exact ih5 _ _ _ _ _ _ _ _ _ _ _
      | exact ih6 _ _ _ _ _ _ _ _
      | exact ih7 _ _ _ _
      | exact LeO.none _
      | refine LeO.ite ?_ ?_
      | refine LeO.bind ?_ (fun _ => ?_)
    · intro y0 y1 y2 y3 y4 y5 y6 y7
      unfold usherref17_Seats.j1
      repeat' first
      | (with_reducible exact ih0 _ _ _ _ _ _ _ _)
      | (with_reducible exact ih1 _ _ _ _ _ _ _ _)
      | (with_reducible exact ih2 _ _ _ _ _ _ _ _)
      | (with_reducible exact ih3 _ _ _ _ _ _ _ _ _ _ _ _)
      | (with_reducible exact ih4 _ _ _ _ _ _ _ _ _ _)
      | (with_reducible exact ih5 _ _ _ _ _ _ _ _ _ _ _)
      | (with_reducible exact ih6 _ _ _ _ _ _ _ _)
      | (with_reducible exact ih7 _ _ _ _)
      | (with_reducible exact LeO.refl _)
      | (with_reducible exact LeO.none _)
      | (with_reducible refine LeO.ite ?_ ?_)
      | (with_reducible refine LeO.bind ?_ (fun _ => ?_))
      | exact ih0 _ _ _ _ _ _ _ _
      | exact ih1 _ _ _ _ _ _ _ _
      | exact ih2 _ _ _ _ _ _ _ _
      | exact ih3 _ _ _ _ _ _ _ _ _ _ _ _
      | exact ih4 _ _ _ _ _ _ _ _ _ _
      | exact ih5 _ _ _ _ _ _ _ _ _ _ _
      | exact ih6 _ _ _ _ _ _ _ _
      | exact ih7 _ _ _ _
      | exact LeO.none _
      | refine LeO.ite ?_ ?_
      | refine LeO.bind ?_ (fun _ => ?_)
    · intro y0 y1 y2 y3 y4 y5 y6 y7
      unfold usherref17_Seats.j2
      repeat' first
      | (with_reducible exact ih0 _ _ _ _ _ _ _ _)
      | (with_reducible exact ih1 _ _ _ _ _ _ _ _)
      | (with_reducible exact ih2 _ _ _ _ _ _ _ _)
      | (with_reducible exact ih3 _ _ _ _ _ _ _ _ _ _ _ _)
      | (with_reducible exact ih4 _ _ _ _ _ _ _ _ _ _)
      | (with_reducible exact ih5 _ _ _ _ _ _ _ _ _ _ _)
      | (with_reducible exact ih6 _ _ _ _ _ _ _ _)
      | (with_reducible exact ih7 _ _ _ _)
      | (with_reducible exact LeO.refl _)
      | (with_reducible exact LeO.none _)
      | (with_reducible refine LeO.ite ?_ ?_)
      | (with_reducible refine LeO.bind ?_ (fun _ => ?_))
      | exact ih0 _ _ _ _ _ _ _ _
      | exact ih1 _ _ _ _ _ _ _ _
      | exact ih2 _ _ _ _ _ _ _ _
      | exact ih3 _ _ _ _ _ _ _ _ _ _ _ _
      | exact ih4 _ _ _ _ _ _ _ _ _ _
      | exact ih5 _ _ _ _ _ _ _ _ _ _ _
      | exact ih6 _ _ _ _ _ _ _ _
      | exact ih7 _ _ _ _
      | exact LeO.none _
      | refine LeO.ite ?_ ?_
      | refine LeO.bind ?_ (fun _ => ?_)
    · intro y0 y1 y2 y3 y4 y5 y6 y7 y8 y9 y10 y11
      unfold usherref17_Seats.j3
      repeat' first
      | (with_reducible exact ih0 _ _ _ _ _ _ _ _)
      | (with_reducible exact ih1 _ _ _ _ _ _ _ _)
      | (with_reducible exact ih2 _ _ _ _ _ _ _ _)
      | (with_reducible exact ih3 _ _ _ _ _ _ _ _ _ _ _ _)
      | (with_reducible exact ih4 _ _ _ _ _ _ _ _ _ _)
      | (with_reducible exact ih5 _ _ _ _ _ _ _ _ _ _ _)
      | (with_reducible exact ih6 _ _ _ _ _ _ _ _)
      | (with_reducible exact ih7 _ _ _ _)
      | (with_reducible exact LeO.refl _)
      | (with_reducible exact LeO.none _)
      | (with_reducible refine LeO.ite ?_ ?_)
      | (with_reducible refine LeO.bind ?_ (fun _ => ?_))
      | exact ih0 _ _ _ _ _ _ _ _
      | exact ih1 _ _ _ _ _ _ _ _
      | exact ih2 _ _ _ _ _ _ _ _
      | exact ih3 _ _ _ _ _ _ _ _ _ _ _ _
      | exact ih4 _ _ _ _ _ _ _ _ _ _
      | exact ih5 _ _ _ _ _ _ _ _ _ _ _
      | exact ih6 _ _ _ _ _ _ _ _
      | exact ih7 _ _ _ _
      | exact LeO.none _
      | refine LeO.ite ?_ ?_
      | refine LeO.bind ?_ (fun _ => ?_)
    · intro y0 y1 y2 y3 y4 y5 y6 y7 y8 y9
      unfold usherref17_Seats.l0
      repeat' first
      | (with_reducible exact ih0 _ _ _ _ _ _ _ _)
      | (with_reducible exact ih1 _ _ _ _ _ _ _ _)
      | (with_reducible exact ih2 _ _ _ _ _ _ _ _)
      | (with_reducible exact ih3 _ _ _ _ _ _ _ _ _ _ _ _)
      | (with_reducible exact ih4 _ _ _ _ _ _ _ _ _ _)
      | (with_reducible exact ih5 _ _ _ _ _ _ _ _ _ _ _)
      | (with_reducible exact ih6 _ _ _ _ _ _ _ _)
      | (with_reducible exact ih7 _ _ _ _)
      | (with_reducible exact LeO.refl _)
      | (with_reducible exact LeO.none _)
      | (with_reducible refine LeO.ite ?_ ?_)
      | (with_reducible refine LeO.bind ?_ (fun _ => ?_))
      | exact ih0 _ _ _ _ _ _ _ _
      | exact ih1 _ _ _ _ _ _ _ _
      | exact ih2 _ _ _ _ _ _ _ _
      | exact ih3 _ _ _ _ _ _ _ _ _ _ _ _
      | exact ih4 _ _ _ _ _ _ _ _ _ _
      | exact ih5 _ _ _ _ _ _ _ _ _ _ _
      | exact ih6 _ _ _ _ _ _ _ _
      | exact ih7 _ _ _ _
      | exact LeO.none _
      | refine LeO.ite ?_ ?_
      | refine LeO.bind ?_ (fun _ => ?_)
    · intro y0 y1 y2 y3 y4 y5 y6 y7 y8 y9 y10
      unfold usherref17_Seats.j5
      repeat' first
      | (with_reducible exact ih0 _ _ _ _ _ _ _ _)
      | (with_reducible exact ih1 _ _ _ _ _ _ _ _)
      | (with_reducible exact ih2 _ _ _ _ _ _ _ _)
      | (with_reducible exact ih3 _ _ _ _ _ _ _ _ _ _ _ _)
      | (with_reducible exact ih4 _ _ _ _ _ _ _ _ _ _)
      | (with_reducible exact ih5 _ _ _ _ _ _ _ _ _ _ _)
      | (with_reducible exact ih6 _ _ _ _ _ _ _ _)
      | (with_reducible exact ih7 _ _ _ _)
      | (with_reducible exact LeO.refl _)
      | (with_reducible exact LeO.none _)
      | (with_reducible refine LeO.ite ?_ ?_)
      | (with_reducible refine LeO.bind ?_ (fun _ => ?_))
      | exact ih0 _ _ _ _ _ _ _ _
      | exact ih1 _ _ _ _ _ _ _ _
      | exact ih2 _ _ _ _ _ _ _ _
      | exact ih3 _ _ _ _ _ _ _ _ _ _ _ _
      | exact ih4 _ _ _ _ _ _ _ _ _ _
      | exact ih5 _ _ _ _ _ _ _ _ _ _ _
      | exact ih6 _ _ _ _ _ _ _ _
      | exact ih7 _ _ _ _
      | exact LeO.none _
      | refine LeO.ite ?_ ?_
      | refine LeO.bind ?_ (fun _ => ?_)
    · intro y0 y1 y2 y3 y4 y5 y6 y7
      unfold usherref17_Seats.j6
      repeat' first
      | (with_reducible exact ih0 _ _ _ _ _ _ _ _)
      | (with_reducible exact ih1 _ _ _ _ _ _ _ _)
      | (with_reducible exact ih2 _ _ _ _ _ _ _ _)
      | (with_reducible exact ih3 _ _ _ _ _ _ _ _ _ _ _ _)
      | (with_reducible exact ih4 _ _ _ _ _ _ _ _ _ _)
      | (with_reducible exact ih5 _ _ _ _ _ _ _ _ _ _ _)
      | (with_reducible exact ih6 _ _ _ _ _ _ _ _)
      | (with_reducible exact ih7 _ _ _ _)
      | (with_reducible exact LeO.refl _)
      | (with_reducible exact LeO.none _)
      | (with_reducible refine LeO.ite ?_ ?_)
      | (with_reducible refine LeO.bind ?_ (fun _ => ?_))
      | exact ih0 _ _ _ _ _ _ _ _
      | exact ih1 _ _ _ _ _ _ _ _
      | exact ih2 _ _ _ _ _ _ _ _
      | exact ih3 _ _ _ _ _ _ _ _ _ _ _ _
      | exact ih4 _ _ _ _ _ _ _ _ _ _
      | exact ih5 _ _ _ _ _ _ _ _ _ _ _
      | exact ih6 _ _ _ _ _ _ _ _
      | exact ih7 _ _ _ _
      | exact LeO.none _
      | refine LeO.ite ?_ ?_
      | refine LeO.bind ?_ (fun _ => ?_)
    · intro y0 y1 y2 y3
      unfold usherref17_Seats.j7
      repeat' first
      | (with_reducible exact ih0 _ _ _ _ _ _ _ _)
      | (with_reducible exact ih1 _ _ _ _ _ _ _ _)
      | (with_reducible exact ih2 _ _ _ _ _ _ _ _)
      | (with_reducible exact ih3 _ _ _ _ _ _ _ _ _ _ _ _)
      | (with_reducible exact ih4 _ _ _ _ _ _ _ _ _ _)
      | (with_reducible exact ih5 _ _ _ _ _ _ _ _ _ _ _)
      | (with_reducible exact ih6 _ _ _ _ _ _ _ _)
      | (with_reducible exact ih7 _ _ _ _)
      | (with_reducible exact LeO.refl _)
      | (with_reducible exact LeO.none _)
      | (with_reducible refine LeO.ite ?_ ?_)
      | (with_reducible refine LeO.bind ?_ (fun _ => ?_))
      | exact ih0 _ _ _ _ _ _ _ _
      | exact ih1 _ _ _ _ _ _ _ _
      | exact ih2 _ _ _ _ _ _ _ _
      | exact ih3 _ _ _ _ _ _ _ _ _ _ _ _
      | exact ih4 _ _ _ _ _ _ _ _ _ _
      | exact ih5 _ _ _ _ _ _ _ _ _ _ _
      | exact ih6 _ _ _ _ _ _ _ _
      | exact ih7 _ _ _ _
      | exact LeO.none _
      | refine LeO.ite ?_ ?_
      | refine LeO.bind ?_ (fun _ => ?_)
theorem usherref17_Seats.mono : ∀ a0 a1 a2 a3 a4 a5 a6 a7 k, LeO (usherref17_Seats.f k a0 a1 a2 a3 a4 a5 a6 a7) (usherref17_Seats.f (k + 1) a0 a1 a2 a3 a4 a5 a6 a7) := by
  intro a0 a1 a2 a3 a4 a5 a6 a7 k
  obtain ⟨ih0, ih1, ih2, ih3, ih4, ih5, ih6, ih7⟩ := usherref17_Seats.mono_l k
  unfold usherref17_Seats.f
  repeat' first
      | (with_reducible exact ih0 _ _ _ _ _ _ _ _)
      | (with_reducible exact ih1 _ _ _ _ _ _ _ _)
      | (with_reducible exact ih2 _ _ _ _ _ _ _ _)
      | (with_reducible exact ih3 _ _ _ _ _ _ _ _ _ _ _ _)
      | (with_reducible exact ih4 _ _ _ _ _ _ _ _ _ _)
      | (with_reducible exact ih5 _ _ _ _ _ _ _ _ _ _ _)
      | (with_reducible exact ih6 _ _ _ _ _ _ _ _)
      | (with_reducible exact ih7 _ _ _ _)
      | (with_reducible exact LeO.refl _)
      | (with_reducible exact LeO.none _)
      | (with_reducible refine LeO.ite ?_ ?_)
      | (with_reducible refine LeO.bind ?_ (fun _ => ?_))
      | exact ih0 _ _ _ _ _ _ _ _
      | exact ih1 _ _ _ _ _ _ _ _
      | exact ih2 _ _ _ _ _ _ _ _
      | exact ih3 _ _ _ _ _ _ _ _ _ _ _ _
      | exact ih4 _ _ _ _ _ _ _ _ _ _
      | exact ih5 _ _ _ _ _ _ _ _ _ _ _
      | exact ih6 _ _ _ _ _ _ _ _
      | exact ih7 _ _ _ _
      | exact LeO.none _
      | refine LeO.ite ?_ ?_
      | refine LeO.bind ?_ (fun _ => ?_)
set_option maxHeartbeats 8000000 in
set_option maxRecDepth 100000 in
theorem usherref17_Seats.calls (k : Nat) (a0 : Int) (a1 : Int) (a2_0 : ByteArray) (A2_1 : Option Addr) (c2_1 : Nat) (l2_1 : List ByteArray) (a2_2 : ByteArray) (a2_3 : ByteArray) (a2_4 : ByteArray) (a2_5 : Int) (r : Int) (w : World) (hr2_1 : Kd.C Kd.string w A2_1 l2_1.length l2_1) (hc2_1 : l2_1.length ≤ c2_1) (h : usherref17_Seats.f k a0 a1 a2_0 l2_1 a2_2 a2_3 a2_4 a2_5 = some r) :
    Calls Try.prog 29 #[.int .i64 a0, .int .i64 a1, .agg #[.string a2_0, .slice A2_1 l2_1.length c2_1, .string a2_2, .string a2_3, .string a2_4, .int .i64 a2_5]] w fun e w' => e = .returned (.int .i64 r) ∧ Below w.heap.size w w' := by
  have hu40 := Try.underlying40
  have HR2_1 := Aside0.mk hr2_1
  have HC2_1 := Aside0.mk hc2_1
  clear hr2_1 hc2_1
  have HB := Aside0.mk (Below.refl w.heap.size w)
  have H : (if a0 < 1 then (usherref17_Seats.j0 k 1 a1 a2_0 l2_1 a2_2 a2_3 a2_4 a2_5) else (usherref17_Seats.j0 k a0 a1 a2_0 l2_1 a2_2 a2_3 a2_4 a2_5)) = some r := h
  clear h
  have HC4 := Aside0.mk H
  clear H
  go_enter Try.func29, Try.ntmps29
  go_upto_if 10 with (first | ((with_reducible refine gate_dst (N := 5) rfl ?_); refine box_event ?hg (N := 5) ?hd (cs := #[.string a2_0, .slice A2_1 l2_1.length c2_1, .string a2_2, .string a2_3, .string a2_4, .int .i64 a2_5]) (t := 40) ?hr ?_; (case hd => rfl); (case hg => rfl); (case hr => first | (go_simp; done) | (go_simp; rfl)); intro gb107 hg w5 hbox hb; have n0_ := Aside0.mk (below_step (by repeat (first | (with_reducible first | exact HB.out | apply below_alloc | apply pw_below_drewN | apply below_drew1) | exact HB.out)) hb); have n1_ := Aside0.mk (hbox); have n2_ := Aside0.mk ((by rw [hg]; exact (below_size (by repeat (first | (with_reducible first | exact HB.out | apply below_alloc | apply pw_below_drewN | apply below_drew1) | exact HB.out))) : w.heap.size ≤ gb107)); have n3_ := Aside0.mk ((by rw [hg]; exact (below_size (by repeat (first | (with_reducible first | exact HB.out | apply below_alloc | apply pw_below_drewN | apply below_drew1) | exact HB.out))) : w.heap.size ≤ gb107)); clear HB; have HB := n0_; have BK107 := n1_; have GW107 := n2_; have GE107 := n3_; clear n0_ n1_ n2_ n3_; clear hb hbox hg))
  (try simp only [Act.put, List.setIfInBounds_toArray, List.set_cons_zero, List.set_cons_succ])
  go_cut [0] (fun v0 wc => ∃ (kq : Nat) (x0_3 : Int), v0 = .int .i64 x0_3 ∧ Aside0 (usherref17_Seats.j0 kq x0_3 a1 a2_0 l2_1 a2_2 a2_3 a2_4 a2_5 = some r) ∧ Aside0 (kq ≤ k) ∧ Aside0 (wc.heap[gb107]? = some (.cells #[.string a2_0, (.slice A2_1 l2_1.length c2_1), .string a2_2, .string a2_3, .string a2_4, .int .i64 a2_5] 40 (0, 0))) ∧ Aside0 (Below w.heap.size w wc))
  case first =>
    have H := HC4.out
    clear HC4
    by_cases c6 : a0 < 1
    · rw [if_pos c6] at H
      have c6b0 : decide (a0 < 1) = true := decide_eq_true c6
      clear c6
      (first | rw [c6b0] | (simp only [i64_w, i32_w]; rw [c6b0]) | skip)
      have H' := Aside0.mk H
      clear H
      go_wp2
      go_meet
      case rel => exact ⟨_, (1), (by first | rfl | (simp; done) | (simp [*]; done)), H', ⟨by first | omega | exact Nat.le_refl _⟩, ⟨by (with_reducible repeat (first | refine blk_drewN ?_ _ | refine blk_drew ?_ | refine blk_alloc ?_ _)); exact BK107.out⟩, ⟨by repeat (first | (with_reducible first | exact HB.out | apply below_alloc | apply pw_below_drewN | apply below_drew1 | refine below_set ?_ GE107.out) | exact HB.out)⟩⟩
    · rw [if_neg c6] at H
      have c6b0 : decide (a0 < 1) = false := decide_eq_false c6
      clear c6
      (first | rw [c6b0] | (simp only [i64_w, i32_w]; rw [c6b0]) | skip)
      have H' := Aside0.mk H
      clear H
      go_wp2
      go_meet
      case rel => exact ⟨_, (a0), (by first | rfl | (simp; done) | (simp [*]; done)), H', ⟨by first | omega | exact Nat.le_refl _⟩, ⟨by (with_reducible repeat (first | refine blk_drewN ?_ _ | refine blk_drew ?_ | refine blk_alloc ?_ _)); exact BK107.out⟩, ⟨by repeat (first | (with_reducible first | exact HB.out | apply below_alloc | apply pw_below_drewN | apply below_drew1 | refine below_set ?_ GE107.out) | exact HB.out)⟩⟩
  case rest =>
    clear HC4
    try clear c2
    try clear p2
    try clear c6
    try clear c6b0
    obtain ⟨kq, x0_3, rfl, HA, HJ3, BK107, HB⟩ := hcut
    cases kq with
    | zero => exact absurd HA.out (by simp [usherref17_Seats.j0])
    | succ kj3 =>
      have H := HA.out
      clear HA
      simp only [usherref17_Seats.j0] at H
      have HC7 := Aside0.mk H
      clear H
      go_upto_if 12 with (fail)
      go_cut [1] (fun v1 wc => ∃ (kq : Nat) (x1_6 : Int), v1 = .int .i64 x1_6 ∧ Aside0 (usherref17_Seats.j1 kq x0_3 x1_6 a2_0 l2_1 a2_2 a2_3 a2_4 a2_5 = some r) ∧ Aside0 (kq ≤ kj3) ∧ Aside0 (wc.heap[gb107]? = some (.cells #[.string a2_0, (.slice A2_1 l2_1.length c2_1), .string a2_2, .string a2_3, .string a2_4, .int .i64 a2_5] 40 (0, 0))) ∧ Aside0 (Below w.heap.size w wc))
      case first =>
        have H := HC7.out
        clear HC7
        by_cases c8 : a1 < 1
        · rw [if_pos c8] at H
          have c8b0 : decide (a1 < 1) = true := decide_eq_true c8
          clear c8
          (first | rw [c8b0] | (simp only [i64_w, i32_w]; rw [c8b0]) | skip)
          have H' := Aside0.mk H
          clear H
          go_wp2
          go_meet
          case rel => exact ⟨_, (1), (by first | rfl | (simp; done) | (simp [*]; done)), H', ⟨by have := HJ3.out; first | omega | exact Nat.le_refl _⟩, ⟨by (with_reducible repeat (first | refine blk_drewN ?_ _ | refine blk_drew ?_ | refine blk_alloc ?_ _)); exact BK107.out⟩, ⟨by repeat (first | (with_reducible first | exact HB.out | apply below_alloc | apply pw_below_drewN | apply below_drew1 | refine below_set ?_ GE107.out) | exact HB.out)⟩⟩
        · rw [if_neg c8] at H
          have c8b0 : decide (a1 < 1) = false := decide_eq_false c8
          clear c8
          (first | rw [c8b0] | (simp only [i64_w, i32_w]; rw [c8b0]) | skip)
          have H' := Aside0.mk H
          clear H
          go_wp2
          go_meet
          case rel => exact ⟨_, (a1), (by first | rfl | (simp; done) | (simp [*]; done)), H', ⟨by have := HJ3.out; first | omega | exact Nat.le_refl _⟩, ⟨by (with_reducible repeat (first | refine blk_drewN ?_ _ | refine blk_drew ?_ | refine blk_alloc ?_ _)); exact BK107.out⟩, ⟨by repeat (first | (with_reducible first | exact HB.out | apply below_alloc | apply pw_below_drewN | apply below_drew1 | refine below_set ?_ GE107.out) | exact HB.out)⟩⟩
      case rest =>
        clear HC7
        try clear c2
        try clear p2
        try clear c6
        try clear c6b0
        try clear c8
        try clear c8b0
        try clear p2
        obtain ⟨kq, x1_6, rfl, HA, HJ6, BK107, HB⟩ := hcut
        cases kq with
        | zero => exact absurd HA.out (by simp [usherref17_Seats.j1])
        | succ kj6 =>
          have H := HA.out
          clear HA
          simp only [usherref17_Seats.j1] at H
          have HC9 := Aside0.mk H
          clear H
          go_upto_if 14 with (fail)
          go_cut [1] (fun v1 wc => ∃ (kq : Nat) (x1_8 : Int), v1 = .int .i64 x1_8 ∧ Aside0 (usherref17_Seats.j2 kq x0_3 x1_8 a2_0 l2_1 a2_2 a2_3 a2_4 a2_5 = some r) ∧ Aside0 (kq ≤ kj6) ∧ Aside0 (wc.heap[gb107]? = some (.cells #[.string a2_0, (.slice A2_1 l2_1.length c2_1), .string a2_2, .string a2_3, .string a2_4, .int .i64 a2_5] 40 (0, 0))) ∧ Aside0 (Below w.heap.size w wc))
          case first =>
            have H := HC9.out
            clear HC9
            by_cases c10 : x1_6 > 16
            · rw [if_pos c10] at H
              have c10b0 : decide (16 < x1_6) = true := decide_eq_true c10
              clear c10
              (first | rw [c10b0] | (simp only [i64_w, i32_w]; rw [c10b0]) | skip)
              have H' := Aside0.mk H
              clear H
              go_wp2
              go_meet
              case rel => exact ⟨_, (16), (by first | rfl | (simp; done) | (simp [*]; done)), H', ⟨by have := HJ3.out; have := HJ6.out; first | omega | exact Nat.le_refl _⟩, ⟨by (with_reducible repeat (first | refine blk_drewN ?_ _ | refine blk_drew ?_ | refine blk_alloc ?_ _)); exact BK107.out⟩, ⟨by repeat (first | (with_reducible first | exact HB.out | apply below_alloc | apply pw_below_drewN | apply below_drew1 | refine below_set ?_ GE107.out) | exact HB.out)⟩⟩
            · rw [if_neg c10] at H
              have c10b0 : decide (16 < x1_6) = false := decide_eq_false c10
              clear c10
              (first | rw [c10b0] | (simp only [i64_w, i32_w]; rw [c10b0]) | skip)
              have H' := Aside0.mk H
              clear H
              go_wp2
              go_meet
              case rel => exact ⟨_, (x1_6), (by first | rfl | (simp; done) | (simp [*]; done)), H', ⟨by have := HJ3.out; have := HJ6.out; first | omega | exact Nat.le_refl _⟩, ⟨by (with_reducible repeat (first | refine blk_drewN ?_ _ | refine blk_drew ?_ | refine blk_alloc ?_ _)); exact BK107.out⟩, ⟨by repeat (first | (with_reducible first | exact HB.out | apply below_alloc | apply pw_below_drewN | apply below_drew1 | refine below_set ?_ GE107.out) | exact HB.out)⟩⟩
          case rest =>
            clear HC9
            try clear c1
            try clear c2
            try clear p2
            try clear c6
            try clear c6b0
            try clear c8
            try clear c8b0
            try clear c10
            try clear c10b0
            try clear p2
            obtain ⟨kq, x1_8, rfl, HA, HJ8, BK107, HB⟩ := hcut
            cases kq with
            | zero => exact absurd HA.out (by simp [usherref17_Seats.j2])
            | succ kj8 =>
              have H := HA.out
              clear HA
              simp only [usherref17_Seats.j2] at H
              have HC11 := Aside0.mk H
              clear H
              have hcz12_0 : wc.cell? ⟨gb107, 0, none⟩ = some (.string a2_0) := (blk_cell BK107.out 0).trans rfl
              have hcz12_1 : wc.cell? ⟨gb107, 1, none⟩ = some (.slice A2_1 l2_1.length c2_1) := (blk_cell BK107.out 1).trans rfl
              have hcz12_2 : wc.cell? ⟨gb107, 2, none⟩ = some (.string a2_2) := (blk_cell BK107.out 2).trans rfl
              have hcz12_3 : wc.cell? ⟨gb107, 3, none⟩ = some (.string a2_3) := (blk_cell BK107.out 3).trans rfl
              have hcz12_4 : wc.cell? ⟨gb107, 4, none⟩ = some (.string a2_4) := (blk_cell BK107.out 4).trans rfl
              have hcz12_5 : wc.cell? ⟨gb107, 5, none⟩ = some (.int .i64 a2_5) := (blk_cell BK107.out 5).trans rfl
              have hfz12_0 := blk_frozen BK107.out 0
              have hfz12_1 := blk_frozen BK107.out 1
              have hfz12_2 := blk_frozen BK107.out 2
              have hfz12_3 := blk_frozen BK107.out 3
              have hfz12_4 := blk_frozen BK107.out 4
              have hfz12_5 := blk_frozen BK107.out 5
              go_upto_if 19 with (fail)
              go_cut [19] (fun v19 wc => ∃ (kq : Nat) (x19_10 : Bool), v19 = .bool x19_10 ∧ Aside0 (usherref17_Seats.j3 kq x0_3 x1_8 a2_5 0 a2_2 x19_10 a2_0 l2_1 a2_2 a2_3 a2_4 a2_5 = some r) ∧ Aside0 (kq ≤ kj8) ∧ Aside0 (wc.heap[gb107]? = some (.cells #[.string a2_0, (.slice A2_1 l2_1.length c2_1), .string a2_2, .string a2_3, .string a2_4, .int .i64 a2_5] 40 (0, 0))) ∧ Aside0 (Below w.heap.size w wc))
              case first =>
                have H := HC11.out
                clear HC11
                by_cases c13 : a2_2.toList = ([108, 105, 115, 116] : List UInt8)
                · rw [if_pos c13] at H
                  have c13b0 : (a2_2.toList == ([108, 105, 115, 116] : List UInt8)) = true := beq_iff_eq.mpr c13
                  have c13b1 : (a2_2.toList != ([108, 105, 115, 116] : List UInt8)) = false := bne_eq_false_iff_eq.mpr c13
                  clear c13
                  (first | rw [c13b0] | (simp only [i64_w, i32_w]; rw [c13b0]) | skip)
                  have H' := Aside0.mk H
                  clear H
                  go_wp2
                  go_meet
                  case rel => exact ⟨_, ((a2_2.toList == ([108, 105, 115, 116] : List UInt8))), (by first | rfl | (simp; done) | (simp [*]; done)), H', ⟨by have := HJ3.out; have := HJ6.out; have := HJ8.out; first | omega | exact Nat.le_refl _⟩, ⟨by (with_reducible repeat (first | refine blk_drewN ?_ _ | refine blk_drew ?_ | refine blk_alloc ?_ _)); exact BK107.out⟩, ⟨by repeat (first | (with_reducible first | exact HB.out | apply below_alloc | apply pw_below_drewN | apply below_drew1 | refine below_set ?_ GE107.out) | exact HB.out)⟩⟩
                · rw [if_neg c13] at H
                  have c13b0 : (a2_2.toList == ([108, 105, 115, 116] : List UInt8)) = false := beq_eq_false_iff_ne.mpr c13
                  have c13b1 : (a2_2.toList != ([108, 105, 115, 116] : List UInt8)) = true := bne_iff_ne.mpr c13
                  (first | rw [c13b0] | (simp only [i64_w, i32_w]; rw [c13b0]) | skip)
                  have H' := Aside0.mk H
                  clear H
                  go_wp2
                  go_meet
                  case rel => exact ⟨_, ((a2_2.toList == ([100, 101, 108, 101, 116, 101, 99, 111, 108, 108, 101, 99, 116, 105, 111, 110] : List UInt8))), (by first | rfl | (simp; done) | (simp [*]; done)), H', ⟨by have := HJ3.out; have := HJ6.out; have := HJ8.out; first | omega | exact Nat.le_refl _⟩, ⟨by (with_reducible repeat (first | refine blk_drewN ?_ _ | refine blk_drew ?_ | refine blk_alloc ?_ _)); exact BK107.out⟩, ⟨by repeat (first | (with_reducible first | exact HB.out | apply below_alloc | apply pw_below_drewN | apply below_drew1 | refine below_set ?_ GE107.out) | exact HB.out)⟩⟩
              case rest =>
                clear HC11
                try clear c1
                try clear c2
                try clear p2
                try clear c6
                try clear c6b0
                try clear c8
                try clear c8b0
                try clear c10
                try clear c10b0
                try clear c13
                try clear c13b0
                try clear c13b1
                try clear hcz12_0
                try clear hcz12_1
                try clear hcz12_2
                try clear hcz12_3
                try clear hcz12_4
                try clear hcz12_5
                try clear hfz12_0
                try clear hfz12_1
                try clear hfz12_2
                try clear hfz12_3
                try clear hfz12_4
                try clear hfz12_5
                try clear p2
                obtain ⟨kq, x19_10, rfl, HA, HJ10, BK107, HB⟩ := hcut
                cases kq with
                | zero => exact absurd HA.out (by simp [usherref17_Seats.j3])
                | succ kj10 =>
                  have H := HA.out
                  clear HA
                  simp only [usherref17_Seats.j3] at H
                  by_cases c14 : x19_10 = true
                  · subst c14
                    have H1 : (usherref17_Seats.l0 kj10 x0_3 x1_8 a2_5 0 a2_0 l2_1 a2_2 a2_3 a2_4 a2_5) = some r := by rw [if_pos rfl] at H; exact H
                    clear H
                    have H := H1
                    clear H1
                    have H' := Aside0.mk H
                    clear H
                    go_wp2
                    go_loopg [7, 8] kj10 (fun kq v7 v8 w' => ∃ (x7_5 : Int) (x8_5 : Int), v7 = .int .i64 x7_5 ∧ v8 = .int .i64 x8_5 ∧ Aside0 (usherref17_Seats.l0 kq x0_3 x1_8 x7_5 x8_5 a2_0 l2_1 a2_2 a2_3 a2_4 a2_5 = some r) ∧ Aside0 (kq ≤ kj10) ∧ Aside0 (w'.heap[gb107]? = some (.cells #[.string a2_0, (.slice A2_1 l2_1.length c2_1), .string a2_2, .string a2_3, .string a2_4, .int .i64 a2_5] 40 (0, 0))) ∧ Aside0 (Below w.heap.size w w'))
                    case atStart => exact ⟨(a2_5), (0), (by first | rfl | (simp; done) | (simp [*]; done)), (by first | rfl | (simp; done) | (simp [*]; done)), H', ⟨Nat.le_refl _⟩, ⟨by (with_reducible repeat (first | refine blk_drewN ?_ _ | refine blk_drew ?_ | refine blk_alloc ?_ _)); exact BK107.out⟩, ⟨by repeat (first | (with_reducible first | exact HB.out | apply below_alloc | apply pw_below_drewN | apply below_drew1 | refine below_set ?_ GE107.out) | exact HB.out)⟩⟩
                    case round =>
                      clear H'
                      try clear c1
                      try clear c2
                      try clear p2
                      try clear c6
                      try clear c6b0
                      try clear c8
                      try clear c8b0
                      try clear c10
                      try clear c10b0
                      try clear c13
                      try clear c13b0
                      try clear c13b1
                      try clear c14
                      try clear hcz12_0
                      try clear hcz12_1
                      try clear hcz12_2
                      try clear hcz12_3
                      try clear hcz12_4
                      try clear hcz12_5
                      try clear hfz12_0
                      try clear hfz12_1
                      try clear hfz12_2
                      try clear hfz12_3
                      try clear hfz12_4
                      try clear hfz12_5
                      try clear p2
                      obtain ⟨x7_5, x8_5, rfl, rfl, HA, HK5, BK107, HB⟩ := hrel
                      cases gk with
                      | zero => exact absurd HA.out (by simp [usherref17_Seats.l0])
                      | succ k5 =>
                        have H := HA.out
                        clear HA
                        simp only [usherref17_Seats.l0] at H
                        have HC15 := Aside0.mk H
                        clear H
                        go_upto_region 13 with (fail)
                        go_cut [28] (fun v28 wc => ∃ (kq : Nat) (x28_14 : Bool), v28 = .bool x28_14 ∧ Aside0 (usherref17_Seats.j5 kq x0_3 x1_8 x7_5 x8_5 x28_14 a2_0 l2_1 a2_2 a2_3 a2_4 a2_5 = some r) ∧ Aside0 (kq ≤ k5) ∧ Aside0 (wc.heap[gb107]? = some (.cells #[.string a2_0, (.slice A2_1 l2_1.length c2_1), .string a2_2, .string a2_3, .string a2_4, .int .i64 a2_5] 40 (0, 0))) ∧ Aside0 (Below w.heap.size w wc))
                        case first =>
                          have H := HC15.out
                          clear HC15
                          by_cases c16 : x7_5 > 0
                          · rw [if_pos c16] at H
                            have c16b0 : decide (0 < x7_5) = true := decide_eq_true c16
                            clear c16
                            (first | rw [c16b0] | (simp only [i64_w, i32_w]; rw [c16b0]) | skip)
                            have H' := Aside0.mk H
                            clear H
                            go_wp2
                            go_meet
                            case rel => exact ⟨_, (decide (x8_5 < x1_8)), (by first | rfl | (simp; done) | (simp [*]; done)), H', ⟨by have := HJ3.out; have := HJ6.out; have := HJ8.out; have := HJ10.out; have := HK5.out; first | omega | exact Nat.le_refl _⟩, ⟨by (with_reducible repeat (first | refine blk_drewN ?_ _ | refine blk_drew ?_ | refine blk_alloc ?_ _)); exact BK107.out⟩, ⟨by repeat (first | (with_reducible first | exact HB.out | apply below_alloc | apply pw_below_drewN | apply below_drew1 | refine below_set ?_ GE107.out) | exact HB.out)⟩⟩
                          · rw [if_neg c16] at H
                            have c16b0 : decide (0 < x7_5) = false := decide_eq_false c16
                            clear c16
                            (first | rw [c16b0] | (simp only [i64_w, i32_w]; rw [c16b0]) | skip)
                            have H' := Aside0.mk H
                            clear H
                            go_wp2
                            go_meet
                            case rel => exact ⟨_, (false), (by first | rfl | (simp; done) | (simp [*]; done)), H', ⟨by have := HJ3.out; have := HJ6.out; have := HJ8.out; have := HJ10.out; have := HK5.out; first | omega | exact Nat.le_refl _⟩, ⟨by (with_reducible repeat (first | refine blk_drewN ?_ _ | refine blk_drew ?_ | refine blk_alloc ?_ _)); exact BK107.out⟩, ⟨by repeat (first | (with_reducible first | exact HB.out | apply below_alloc | apply pw_below_drewN | apply below_drew1 | refine below_set ?_ GE107.out) | exact HB.out)⟩⟩
                        case rest =>
                          clear HC15
                          try clear c1
                          try clear c2
                          try clear p2
                          try clear c6
                          try clear c6b0
                          try clear c8
                          try clear c8b0
                          try clear c10
                          try clear c10b0
                          try clear c13
                          try clear c13b0
                          try clear c13b1
                          try clear c14
                          try clear c16
                          try clear c16b0
                          try clear hcz12_0
                          try clear hcz12_1
                          try clear hcz12_2
                          try clear hcz12_3
                          try clear hcz12_4
                          try clear hcz12_5
                          try clear hfz12_0
                          try clear hfz12_1
                          try clear hfz12_2
                          try clear hfz12_3
                          try clear hfz12_4
                          try clear hfz12_5
                          try clear p2
                          obtain ⟨kq, x28_14, rfl, HA, HJ14, BK107, HB⟩ := hcut
                          cases kq with
                          | zero => exact absurd HA.out (by simp [usherref17_Seats.j5])
                          | succ kj14 =>
                            have H := HA.out
                            clear HA
                            simp only [usherref17_Seats.j5] at H
                            by_cases c17 : x28_14 = true
                            · subst c17
                              have H1 : (if a2_4.toList = ([] : List UInt8) then (usherref17_Seats.l0 kj14 x0_3 x1_8 (wrap64 (x7_5 - x0_3)) (wrap64 (x8_5 + 1)) a2_0 l2_1 a2_2 a2_3 a2_4 a2_5) else (if (wrap64 (x7_5 - x0_3)) > 0 then (usherref17_Seats.l0 kj14 x0_3 x1_8 (wrap64 ((wrap64 (x7_5 - x0_3)) - x0_3)) (wrap64 (x8_5 + 1)) a2_0 l2_1 a2_2 a2_3 a2_4 a2_5) else (usherref17_Seats.l0 kj14 x0_3 x1_8 (wrap64 (x7_5 - x0_3)) (wrap64 (x8_5 + 1)) a2_0 l2_1 a2_2 a2_3 a2_4 a2_5))) = some r := by rw [if_pos rfl] at H; exact H
                              clear H
                              have H := H1
                              clear H1
                              by_cases c18 : a2_4.toList = ([] : List UInt8)
                              · rw [if_pos c18] at H
                                have c18b0 : (a2_4.toList == ([] : List UInt8)) = true := beq_iff_eq.mpr c18
                                have c18b1 : (a2_4.toList != ([] : List UInt8)) = false := bne_eq_false_iff_eq.mpr c18
                                clear c18
                                have H' := Aside0.mk H
                                clear H
                                have hcz19_0 : wc.cell? ⟨gb107, 0, none⟩ = some (.string a2_0) := (blk_cell BK107.out 0).trans rfl
                                have hcz19_1 : wc.cell? ⟨gb107, 1, none⟩ = some (.slice A2_1 l2_1.length c2_1) := (blk_cell BK107.out 1).trans rfl
                                have hcz19_2 : wc.cell? ⟨gb107, 2, none⟩ = some (.string a2_2) := (blk_cell BK107.out 2).trans rfl
                                have hcz19_3 : wc.cell? ⟨gb107, 3, none⟩ = some (.string a2_3) := (blk_cell BK107.out 3).trans rfl
                                have hcz19_4 : wc.cell? ⟨gb107, 4, none⟩ = some (.string a2_4) := (blk_cell BK107.out 4).trans rfl
                                have hcz19_5 : wc.cell? ⟨gb107, 5, none⟩ = some (.int .i64 a2_5) := (blk_cell BK107.out 5).trans rfl
                                have hfz19_0 := blk_frozen BK107.out 0
                                have hfz19_1 := blk_frozen BK107.out 1
                                have hfz19_2 := blk_frozen BK107.out 2
                                have hfz19_3 := blk_frozen BK107.out 3
                                have hfz19_4 := blk_frozen BK107.out 4
                                have hfz19_5 := blk_frozen BK107.out 5
                                go_wp2
                                go_roundg kj14
                                case measure => have := HJ3.out; have := HJ6.out; have := HJ8.out; have := HJ10.out; have := HK5.out; have := HJ14.out; omega
                                case rel => exact ⟨(wrap64 (x7_5 - x0_3)), (wrap64 (x8_5 + 1)), (by first | rfl | (simp; done) | (simp [*]; done)), (by first | rfl | (simp; done) | (simp [*]; done)), H', ⟨by have := HJ3.out; have := HJ6.out; have := HJ8.out; have := HJ10.out; have := HK5.out; have := HJ14.out; omega⟩, ⟨by (with_reducible repeat (first | refine blk_drewN ?_ _ | refine blk_drew ?_ | refine blk_alloc ?_ _)); exact BK107.out⟩, ⟨by repeat (first | (with_reducible first | exact HB.out | apply below_alloc | apply pw_below_drewN | apply below_drew1 | refine below_set ?_ GE107.out) | exact HB.out)⟩⟩
                              · rw [if_neg c18] at H
                                have c18b0 : (a2_4.toList == ([] : List UInt8)) = false := beq_eq_false_iff_ne.mpr c18
                                have c18b1 : (a2_4.toList != ([] : List UInt8)) = true := bne_iff_ne.mpr c18
                                by_cases c20 : (wrap64 (x7_5 - x0_3)) > 0
                                · rw [if_pos c20] at H
                                  have c20b0 : decide (0 < (wrap64 (x7_5 - x0_3))) = true := decide_eq_true c20
                                  clear c20
                                  have H' := Aside0.mk H
                                  clear H
                                  have hcz21_0 : wc.cell? ⟨gb107, 0, none⟩ = some (.string a2_0) := (blk_cell BK107.out 0).trans rfl
                                  have hcz21_1 : wc.cell? ⟨gb107, 1, none⟩ = some (.slice A2_1 l2_1.length c2_1) := (blk_cell BK107.out 1).trans rfl
                                  have hcz21_2 : wc.cell? ⟨gb107, 2, none⟩ = some (.string a2_2) := (blk_cell BK107.out 2).trans rfl
                                  have hcz21_3 : wc.cell? ⟨gb107, 3, none⟩ = some (.string a2_3) := (blk_cell BK107.out 3).trans rfl
                                  have hcz21_4 : wc.cell? ⟨gb107, 4, none⟩ = some (.string a2_4) := (blk_cell BK107.out 4).trans rfl
                                  have hcz21_5 : wc.cell? ⟨gb107, 5, none⟩ = some (.int .i64 a2_5) := (blk_cell BK107.out 5).trans rfl
                                  have hfz21_0 := blk_frozen BK107.out 0
                                  have hfz21_1 := blk_frozen BK107.out 1
                                  have hfz21_2 := blk_frozen BK107.out 2
                                  have hfz21_3 := blk_frozen BK107.out 3
                                  have hfz21_4 := blk_frozen BK107.out 4
                                  have hfz21_5 := blk_frozen BK107.out 5
                                  go_wp2
                                  go_roundg kj14
                                  case measure => have := HJ3.out; have := HJ6.out; have := HJ8.out; have := HJ10.out; have := HK5.out; have := HJ14.out; omega
                                  case rel => exact ⟨(wrap64 ((wrap64 (x7_5 - x0_3)) - x0_3)), (wrap64 (x8_5 + 1)), (by first | rfl | (simp; done) | (simp [*]; done)), (by first | rfl | (simp; done) | (simp [*]; done)), H', ⟨by have := HJ3.out; have := HJ6.out; have := HJ8.out; have := HJ10.out; have := HK5.out; have := HJ14.out; omega⟩, ⟨by (with_reducible repeat (first | refine blk_drewN ?_ _ | refine blk_drew ?_ | refine blk_alloc ?_ _)); exact BK107.out⟩, ⟨by repeat (first | (with_reducible first | exact HB.out | apply below_alloc | apply pw_below_drewN | apply below_drew1 | refine below_set ?_ GE107.out) | exact HB.out)⟩⟩
                                · rw [if_neg c20] at H
                                  have c20b0 : decide (0 < (wrap64 (x7_5 - x0_3))) = false := decide_eq_false c20
                                  clear c20
                                  have H' := Aside0.mk H
                                  clear H
                                  have hcz22_0 : wc.cell? ⟨gb107, 0, none⟩ = some (.string a2_0) := (blk_cell BK107.out 0).trans rfl
                                  have hcz22_1 : wc.cell? ⟨gb107, 1, none⟩ = some (.slice A2_1 l2_1.length c2_1) := (blk_cell BK107.out 1).trans rfl
                                  have hcz22_2 : wc.cell? ⟨gb107, 2, none⟩ = some (.string a2_2) := (blk_cell BK107.out 2).trans rfl
                                  have hcz22_3 : wc.cell? ⟨gb107, 3, none⟩ = some (.string a2_3) := (blk_cell BK107.out 3).trans rfl
                                  have hcz22_4 : wc.cell? ⟨gb107, 4, none⟩ = some (.string a2_4) := (blk_cell BK107.out 4).trans rfl
                                  have hcz22_5 : wc.cell? ⟨gb107, 5, none⟩ = some (.int .i64 a2_5) := (blk_cell BK107.out 5).trans rfl
                                  have hfz22_0 := blk_frozen BK107.out 0
                                  have hfz22_1 := blk_frozen BK107.out 1
                                  have hfz22_2 := blk_frozen BK107.out 2
                                  have hfz22_3 := blk_frozen BK107.out 3
                                  have hfz22_4 := blk_frozen BK107.out 4
                                  have hfz22_5 := blk_frozen BK107.out 5
                                  go_wp2
                                  go_roundg kj14
                                  case measure => have := HJ3.out; have := HJ6.out; have := HJ8.out; have := HJ10.out; have := HK5.out; have := HJ14.out; omega
                                  case rel => exact ⟨(wrap64 (x7_5 - x0_3)), (wrap64 (x8_5 + 1)), (by first | rfl | (simp; done) | (simp [*]; done)), (by first | rfl | (simp; done) | (simp [*]; done)), H', ⟨by have := HJ3.out; have := HJ6.out; have := HJ8.out; have := HJ10.out; have := HK5.out; have := HJ14.out; omega⟩, ⟨by (with_reducible repeat (first | refine blk_drewN ?_ _ | refine blk_drew ?_ | refine blk_alloc ?_ _)); exact BK107.out⟩, ⟨by repeat (first | (with_reducible first | exact HB.out | apply below_alloc | apply pw_below_drewN | apply below_drew1 | refine below_set ?_ GE107.out) | exact HB.out)⟩⟩
                            · replace c17 := Bool.eq_false_iff.mpr c17
                              subst c17
                              have H1 : (if x8_5 < 1 then (usherref17_Seats.j6 kj14 x1_8 1 a2_0 l2_1 a2_2 a2_3 a2_4 a2_5) else (usherref17_Seats.j6 kj14 x1_8 x8_5 a2_0 l2_1 a2_2 a2_3 a2_4 a2_5)) = some r := by rw [if_neg (show ¬ (false = true) by decide)] at H; exact H
                              clear H
                              have H := H1
                              clear H1
                              have HC23 := Aside0.mk H
                              clear H
                              go_upto_if 45 with (fail)
                              go_cut [8] (fun v8 wc => ∃ (kq : Nat) (x8_22 : Int), v8 = .int .i64 x8_22 ∧ Aside0 (usherref17_Seats.j6 kq x1_8 x8_22 a2_0 l2_1 a2_2 a2_3 a2_4 a2_5 = some r) ∧ Aside0 (kq ≤ kj14) ∧ Aside0 (wc.heap[gb107]? = some (.cells #[.string a2_0, (.slice A2_1 l2_1.length c2_1), .string a2_2, .string a2_3, .string a2_4, .int .i64 a2_5] 40 (0, 0))) ∧ Aside0 (Below w.heap.size w wc))
                              case first =>
                                have H := HC23.out
                                clear HC23
                                by_cases c24 : x8_5 < 1
                                · rw [if_pos c24] at H
                                  have c24b0 : decide (x8_5 < 1) = true := decide_eq_true c24
                                  clear c24
                                  (first | rw [c24b0] | (simp only [i64_w, i32_w]; rw [c24b0]) | skip)
                                  have H' := Aside0.mk H
                                  clear H
                                  go_wp2
                                  go_meet
                                  case rel => exact ⟨_, (1), (by first | rfl | (simp; done) | (simp [*]; done)), H', ⟨by have := HJ3.out; have := HJ6.out; have := HJ8.out; have := HJ10.out; have := HK5.out; have := HJ14.out; first | omega | exact Nat.le_refl _⟩, ⟨by (with_reducible repeat (first | refine blk_drewN ?_ _ | refine blk_drew ?_ | refine blk_alloc ?_ _)); exact BK107.out⟩, ⟨by repeat (first | (with_reducible first | exact HB.out | apply below_alloc | apply pw_below_drewN | apply below_drew1 | refine below_set ?_ GE107.out) | exact HB.out)⟩⟩
                                · rw [if_neg c24] at H
                                  have c24b0 : decide (x8_5 < 1) = false := decide_eq_false c24
                                  clear c24
                                  (first | rw [c24b0] | (simp only [i64_w, i32_w]; rw [c24b0]) | skip)
                                  have H' := Aside0.mk H
                                  clear H
                                  go_wp2
                                  go_meet
                                  case rel => exact ⟨_, (x8_5), (by first | rfl | (simp; done) | (simp [*]; done)), H', ⟨by have := HJ3.out; have := HJ6.out; have := HJ8.out; have := HJ10.out; have := HK5.out; have := HJ14.out; first | omega | exact Nat.le_refl _⟩, ⟨by (with_reducible repeat (first | refine blk_drewN ?_ _ | refine blk_drew ?_ | refine blk_alloc ?_ _)); exact BK107.out⟩, ⟨by repeat (first | (with_reducible first | exact HB.out | apply below_alloc | apply pw_below_drewN | apply below_drew1 | refine below_set ?_ GE107.out) | exact HB.out)⟩⟩
                              case rest =>
                                clear HC23
                                try clear c1
                                try clear c2
                                try clear p2
                                try clear c6
                                try clear c6b0
                                try clear p6
                                try clear c8
                                try clear c8b0
                                try clear c10
                                try clear c10b0
                                try clear c13
                                try clear c13b0
                                try clear c13b1
                                try clear c14
                                try clear c16
                                try clear c16b0
                                try clear c17
                                try clear c18
                                try clear c18b0
                                try clear c18b1
                                try clear c20
                                try clear c20b0
                                try clear c24
                                try clear c24b0
                                try clear hcz12_0
                                try clear hcz12_1
                                try clear hcz12_2
                                try clear hcz12_3
                                try clear hcz12_4
                                try clear hcz12_5
                                try clear hcz19_0
                                try clear hcz19_1
                                try clear hcz19_2
                                try clear hcz19_3
                                try clear hcz19_4
                                try clear hcz19_5
                                try clear hcz21_0
                                try clear hcz21_1
                                try clear hcz21_2
                                try clear hcz21_3
                                try clear hcz21_4
                                try clear hcz21_5
                                try clear hcz22_0
                                try clear hcz22_1
                                try clear hcz22_2
                                try clear hcz22_3
                                try clear hcz22_4
                                try clear hcz22_5
                                try clear hfz12_0
                                try clear hfz12_1
                                try clear hfz12_2
                                try clear hfz12_3
                                try clear hfz12_4
                                try clear hfz12_5
                                try clear hfz19_0
                                try clear hfz19_1
                                try clear hfz19_2
                                try clear hfz19_3
                                try clear hfz19_4
                                try clear hfz19_5
                                try clear hfz21_0
                                try clear hfz21_1
                                try clear hfz21_2
                                try clear hfz21_3
                                try clear hfz21_4
                                try clear hfz21_5
                                try clear hfz22_0
                                try clear hfz22_1
                                try clear hfz22_2
                                try clear hfz22_3
                                try clear hfz22_4
                                try clear hfz22_5
                                try clear p2
                                obtain ⟨kq, x8_22, rfl, HA, HJ22, BK107, HB⟩ := hcut
                                cases kq with
                                | zero => exact absurd HA.out (by simp [usherref17_Seats.j6])
                                | succ kj22 =>
                                  have H := HA.out
                                  clear HA
                                  simp only [usherref17_Seats.j6] at H
                                  by_cases c25 : a2_2.toList = ([100, 101, 108, 101, 116, 101, 99, 111, 108, 108, 101, 99, 116, 105, 111, 110] : List UInt8)
                                  · rw [if_pos c25] at H
                                    have c25b0 : (a2_2.toList == ([100, 101, 108, 101, 116, 101, 99, 111, 108, 108, 101, 99, 116, 105, 111, 110] : List UInt8)) = true := beq_iff_eq.mpr c25
                                    have c25b1 : (a2_2.toList != ([100, 101, 108, 101, 116, 101, 99, 111, 108, 108, 101, 99, 116, 105, 111, 110] : List UInt8)) = false := bne_eq_false_iff_eq.mpr c25
                                    clear c25
                                    by_cases c26 : (wrap64 (x8_22 + 1)) > x1_8
                                    · rw [if_pos c26] at H
                                      have c26b0 : decide (x1_8 < (wrap64 (x8_22 + 1))) = true := decide_eq_true c26
                                      clear c26
                                      obtain rfl := Option.some.inj H
                                      have hcz27_0 : wc.cell? ⟨gb107, 0, none⟩ = some (.string a2_0) := (blk_cell BK107.out 0).trans rfl
                                      have hcz27_1 : wc.cell? ⟨gb107, 1, none⟩ = some (.slice A2_1 l2_1.length c2_1) := (blk_cell BK107.out 1).trans rfl
                                      have hcz27_2 : wc.cell? ⟨gb107, 2, none⟩ = some (.string a2_2) := (blk_cell BK107.out 2).trans rfl
                                      have hcz27_3 : wc.cell? ⟨gb107, 3, none⟩ = some (.string a2_3) := (blk_cell BK107.out 3).trans rfl
                                      have hcz27_4 : wc.cell? ⟨gb107, 4, none⟩ = some (.string a2_4) := (blk_cell BK107.out 4).trans rfl
                                      have hcz27_5 : wc.cell? ⟨gb107, 5, none⟩ = some (.int .i64 a2_5) := (blk_cell BK107.out 5).trans rfl
                                      have hfz27_0 := blk_frozen BK107.out 0
                                      have hfz27_1 := blk_frozen BK107.out 1
                                      have hfz27_2 := blk_frozen BK107.out 2
                                      have hfz27_3 := blk_frozen BK107.out 3
                                      have hfz27_4 := blk_frozen BK107.out 4
                                      have hfz27_5 := blk_frozen BK107.out 5
                                      go_wp2
                                      go_ret
                                      exact ⟨by first | rfl | (simp [errW_none, errW_some] <;> rfl) | (simp [*, errW_none, errW_some] <;> rfl), by repeat (first | (with_reducible first | exact HB.out | apply below_alloc | apply pw_below_drewN | apply below_drew1 | refine below_set ?_ GE107.out) | exact HB.out)⟩
                                    · rw [if_neg c26] at H
                                      have c26b0 : decide (x1_8 < (wrap64 (x8_22 + 1))) = false := decide_eq_false c26
                                      clear c26
                                      obtain rfl := Option.some.inj H
                                      have hcz28_0 : wc.cell? ⟨gb107, 0, none⟩ = some (.string a2_0) := (blk_cell BK107.out 0).trans rfl
                                      have hcz28_1 : wc.cell? ⟨gb107, 1, none⟩ = some (.slice A2_1 l2_1.length c2_1) := (blk_cell BK107.out 1).trans rfl
                                      have hcz28_2 : wc.cell? ⟨gb107, 2, none⟩ = some (.string a2_2) := (blk_cell BK107.out 2).trans rfl
                                      have hcz28_3 : wc.cell? ⟨gb107, 3, none⟩ = some (.string a2_3) := (blk_cell BK107.out 3).trans rfl
                                      have hcz28_4 : wc.cell? ⟨gb107, 4, none⟩ = some (.string a2_4) := (blk_cell BK107.out 4).trans rfl
                                      have hcz28_5 : wc.cell? ⟨gb107, 5, none⟩ = some (.int .i64 a2_5) := (blk_cell BK107.out 5).trans rfl
                                      have hfz28_0 := blk_frozen BK107.out 0
                                      have hfz28_1 := blk_frozen BK107.out 1
                                      have hfz28_2 := blk_frozen BK107.out 2
                                      have hfz28_3 := blk_frozen BK107.out 3
                                      have hfz28_4 := blk_frozen BK107.out 4
                                      have hfz28_5 := blk_frozen BK107.out 5
                                      go_wp2
                                      go_ret
                                      exact ⟨by first | rfl | (simp [errW_none, errW_some] <;> rfl) | (simp [*, errW_none, errW_some] <;> rfl), by repeat (first | (with_reducible first | exact HB.out | apply below_alloc | apply pw_below_drewN | apply below_drew1 | refine below_set ?_ GE107.out) | exact HB.out)⟩
                                  · rw [if_neg c25] at H
                                    have c25b0 : (a2_2.toList == ([100, 101, 108, 101, 116, 101, 99, 111, 108, 108, 101, 99, 116, 105, 111, 110] : List UInt8)) = false := beq_eq_false_iff_ne.mpr c25
                                    have c25b1 : (a2_2.toList != ([100, 101, 108, 101, 116, 101, 99, 111, 108, 108, 101, 99, 116, 105, 111, 110] : List UInt8)) = true := bne_iff_ne.mpr c25
                                    by_cases c29 : x8_22 > x1_8
                                    · rw [if_pos c29] at H
                                      have c29b0 : decide (x1_8 < x8_22) = true := decide_eq_true c29
                                      clear c29
                                      obtain rfl := Option.some.inj H
                                      have hcz30_0 : wc.cell? ⟨gb107, 0, none⟩ = some (.string a2_0) := (blk_cell BK107.out 0).trans rfl
                                      have hcz30_1 : wc.cell? ⟨gb107, 1, none⟩ = some (.slice A2_1 l2_1.length c2_1) := (blk_cell BK107.out 1).trans rfl
                                      have hcz30_2 : wc.cell? ⟨gb107, 2, none⟩ = some (.string a2_2) := (blk_cell BK107.out 2).trans rfl
                                      have hcz30_3 : wc.cell? ⟨gb107, 3, none⟩ = some (.string a2_3) := (blk_cell BK107.out 3).trans rfl
                                      have hcz30_4 : wc.cell? ⟨gb107, 4, none⟩ = some (.string a2_4) := (blk_cell BK107.out 4).trans rfl
                                      have hcz30_5 : wc.cell? ⟨gb107, 5, none⟩ = some (.int .i64 a2_5) := (blk_cell BK107.out 5).trans rfl
                                      have hfz30_0 := blk_frozen BK107.out 0
                                      have hfz30_1 := blk_frozen BK107.out 1
                                      have hfz30_2 := blk_frozen BK107.out 2
                                      have hfz30_3 := blk_frozen BK107.out 3
                                      have hfz30_4 := blk_frozen BK107.out 4
                                      have hfz30_5 := blk_frozen BK107.out 5
                                      go_wp2
                                      go_ret
                                      exact ⟨by first | rfl | (simp [errW_none, errW_some] <;> rfl) | (simp [*, errW_none, errW_some] <;> rfl), by repeat (first | (with_reducible first | exact HB.out | apply below_alloc | apply pw_below_drewN | apply below_drew1 | refine below_set ?_ GE107.out) | exact HB.out)⟩
                                    · rw [if_neg c29] at H
                                      have c29b0 : decide (x1_8 < x8_22) = false := decide_eq_false c29
                                      clear c29
                                      obtain rfl := Option.some.inj H
                                      have hcz31_0 : wc.cell? ⟨gb107, 0, none⟩ = some (.string a2_0) := (blk_cell BK107.out 0).trans rfl
                                      have hcz31_1 : wc.cell? ⟨gb107, 1, none⟩ = some (.slice A2_1 l2_1.length c2_1) := (blk_cell BK107.out 1).trans rfl
                                      have hcz31_2 : wc.cell? ⟨gb107, 2, none⟩ = some (.string a2_2) := (blk_cell BK107.out 2).trans rfl
                                      have hcz31_3 : wc.cell? ⟨gb107, 3, none⟩ = some (.string a2_3) := (blk_cell BK107.out 3).trans rfl
                                      have hcz31_4 : wc.cell? ⟨gb107, 4, none⟩ = some (.string a2_4) := (blk_cell BK107.out 4).trans rfl
                                      have hcz31_5 : wc.cell? ⟨gb107, 5, none⟩ = some (.int .i64 a2_5) := (blk_cell BK107.out 5).trans rfl
                                      have hfz31_0 := blk_frozen BK107.out 0
                                      have hfz31_1 := blk_frozen BK107.out 1
                                      have hfz31_2 := blk_frozen BK107.out 2
                                      have hfz31_3 := blk_frozen BK107.out 3
                                      have hfz31_4 := blk_frozen BK107.out 4
                                      have hfz31_5 := blk_frozen BK107.out 5
                                      go_wp2
                                      go_ret
                                      exact ⟨by first | rfl | (simp [errW_none, errW_some] <;> rfl) | (simp [*, errW_none, errW_some] <;> rfl), by repeat (first | (with_reducible first | exact HB.out | apply below_alloc | apply pw_below_drewN | apply below_drew1 | refine below_set ?_ GE107.out) | exact HB.out)⟩
                  · replace c14 := Bool.eq_false_iff.mpr c14
                    subst c14
                    have H1 : (if a2_2.toList = ([99, 114, 101, 97, 116, 101] : List UInt8) then (usherref17_Seats.j7 kj10 x0_3 x1_8 a2_5 (a2_2.toList == ([99, 114, 101, 97, 116, 101] : List UInt8))) else (if a2_2.toList = ([117, 112, 100, 97, 116, 101] : List UInt8) then (usherref17_Seats.j7 kj10 x0_3 x1_8 a2_5 (a2_2.toList == ([117, 112, 100, 97, 116, 101] : List UInt8))) else (if a2_2.toList = ([112, 97, 116, 99, 104] : List UInt8) then (usherref17_Seats.j7 kj10 x0_3 x1_8 a2_5 (a2_2.toList == ([112, 97, 116, 99, 104] : List UInt8))) else (usherref17_Seats.j7 kj10 x0_3 x1_8 a2_5 (a2_2.toList == ([100, 101, 108, 101, 116, 101] : List UInt8)))))) = some r := by rw [if_neg (show ¬ (false = true) by decide)] at H; exact H
                    clear H
                    have H := H1
                    clear H1
                    have HC32 := Aside0.mk H
                    clear H
                    go_upto_if 51 with (fail)
                    go_cut [51] (fun v51 wc => ∃ (kq : Nat) (x51_31 : Bool), v51 = .bool x51_31 ∧ Aside0 (usherref17_Seats.j7 kq x0_3 x1_8 a2_5 x51_31 = some r) ∧ Aside0 (kq ≤ kj10) ∧ Aside0 (wc.heap[gb107]? = some (.cells #[.string a2_0, (.slice A2_1 l2_1.length c2_1), .string a2_2, .string a2_3, .string a2_4, .int .i64 a2_5] 40 (0, 0))) ∧ Aside0 (Below w.heap.size w wc))
                    case first =>
                      have H := HC32.out
                      clear HC32
                      by_cases c33 : a2_2.toList = ([99, 114, 101, 97, 116, 101] : List UInt8)
                      · rw [if_pos c33] at H
                        have c33b0 : (a2_2.toList == ([99, 114, 101, 97, 116, 101] : List UInt8)) = true := beq_iff_eq.mpr c33
                        have c33b1 : (a2_2.toList != ([99, 114, 101, 97, 116, 101] : List UInt8)) = false := bne_eq_false_iff_eq.mpr c33
                        clear c33
                        (first | rw [c33b0] | (simp only [i64_w, i32_w]; rw [c33b0]) | skip)
                        have H' := Aside0.mk H
                        clear H
                        go_wp2
                        go_meet
                        case rel => exact ⟨_, ((a2_2.toList == ([99, 114, 101, 97, 116, 101] : List UInt8))), (by first | rfl | (simp; done) | (simp [*]; done)), H', ⟨by have := HJ3.out; have := HJ6.out; have := HJ8.out; have := HJ10.out; first | omega | exact Nat.le_refl _⟩, ⟨by (with_reducible repeat (first | refine blk_drewN ?_ _ | refine blk_drew ?_ | refine blk_alloc ?_ _)); exact BK107.out⟩, ⟨by repeat (first | (with_reducible first | exact HB.out | apply below_alloc | apply pw_below_drewN | apply below_drew1 | refine below_set ?_ GE107.out) | exact HB.out)⟩⟩
                      · rw [if_neg c33] at H
                        have c33b0 : (a2_2.toList == ([99, 114, 101, 97, 116, 101] : List UInt8)) = false := beq_eq_false_iff_ne.mpr c33
                        have c33b1 : (a2_2.toList != ([99, 114, 101, 97, 116, 101] : List UInt8)) = true := bne_iff_ne.mpr c33
                        (first | rw [c33b0] | (simp only [i64_w, i32_w]; rw [c33b0]) | skip)
                        by_cases c34 : a2_2.toList = ([117, 112, 100, 97, 116, 101] : List UInt8)
                        · rw [if_pos c34] at H
                          have c34b0 : (a2_2.toList == ([117, 112, 100, 97, 116, 101] : List UInt8)) = true := beq_iff_eq.mpr c34
                          have c34b1 : (a2_2.toList != ([117, 112, 100, 97, 116, 101] : List UInt8)) = false := bne_eq_false_iff_eq.mpr c34
                          clear c34
                          have H' := Aside0.mk H
                          clear H
                          go_wp2
                          go_meet
                          case rel => exact ⟨_, ((a2_2.toList == ([117, 112, 100, 97, 116, 101] : List UInt8))), (by first | rfl | (simp; done) | (simp [*]; done)), H', ⟨by have := HJ3.out; have := HJ6.out; have := HJ8.out; have := HJ10.out; first | omega | exact Nat.le_refl _⟩, ⟨by (with_reducible repeat (first | refine blk_drewN ?_ _ | refine blk_drew ?_ | refine blk_alloc ?_ _)); exact BK107.out⟩, ⟨by repeat (first | (with_reducible first | exact HB.out | apply below_alloc | apply pw_below_drewN | apply below_drew1 | refine below_set ?_ GE107.out) | exact HB.out)⟩⟩
                        · rw [if_neg c34] at H
                          have c34b0 : (a2_2.toList == ([117, 112, 100, 97, 116, 101] : List UInt8)) = false := beq_eq_false_iff_ne.mpr c34
                          have c34b1 : (a2_2.toList != ([117, 112, 100, 97, 116, 101] : List UInt8)) = true := bne_iff_ne.mpr c34
                          by_cases c35 : a2_2.toList = ([112, 97, 116, 99, 104] : List UInt8)
                          · rw [if_pos c35] at H
                            have c35b0 : (a2_2.toList == ([112, 97, 116, 99, 104] : List UInt8)) = true := beq_iff_eq.mpr c35
                            have c35b1 : (a2_2.toList != ([112, 97, 116, 99, 104] : List UInt8)) = false := bne_eq_false_iff_eq.mpr c35
                            clear c35
                            have H' := Aside0.mk H
                            clear H
                            go_wp2
                            go_meet
                            case rel => exact ⟨_, ((a2_2.toList == ([112, 97, 116, 99, 104] : List UInt8))), (by first | rfl | (simp; done) | (simp [*]; done)), H', ⟨by have := HJ3.out; have := HJ6.out; have := HJ8.out; have := HJ10.out; first | omega | exact Nat.le_refl _⟩, ⟨by (with_reducible repeat (first | refine blk_drewN ?_ _ | refine blk_drew ?_ | refine blk_alloc ?_ _)); exact BK107.out⟩, ⟨by repeat (first | (with_reducible first | exact HB.out | apply below_alloc | apply pw_below_drewN | apply below_drew1 | refine below_set ?_ GE107.out) | exact HB.out)⟩⟩
                          · rw [if_neg c35] at H
                            have c35b0 : (a2_2.toList == ([112, 97, 116, 99, 104] : List UInt8)) = false := beq_eq_false_iff_ne.mpr c35
                            have c35b1 : (a2_2.toList != ([112, 97, 116, 99, 104] : List UInt8)) = true := bne_iff_ne.mpr c35
                            have H' := Aside0.mk H
                            clear H
                            go_wp2
                            go_meet
                            case rel => exact ⟨_, ((a2_2.toList == ([100, 101, 108, 101, 116, 101] : List UInt8))), (by first | rfl | (simp; done) | (simp [*]; done)), H', ⟨by have := HJ3.out; have := HJ6.out; have := HJ8.out; have := HJ10.out; first | omega | exact Nat.le_refl _⟩, ⟨by (with_reducible repeat (first | refine blk_drewN ?_ _ | refine blk_drew ?_ | refine blk_alloc ?_ _)); exact BK107.out⟩, ⟨by repeat (first | (with_reducible first | exact HB.out | apply below_alloc | apply pw_below_drewN | apply below_drew1 | refine below_set ?_ GE107.out) | exact HB.out)⟩⟩
                    case rest =>
                      clear HC32
                      try clear c1
                      try clear c2
                      try clear p2
                      try clear c3
                      try clear c6
                      try clear c6b0
                      try clear p6
                      try clear c8
                      try clear c8b0
                      try clear c10
                      try clear c10b0
                      try clear c13
                      try clear c13b0
                      try clear c13b1
                      try clear c14
                      try clear c16
                      try clear c16b0
                      try clear c17
                      try clear c18
                      try clear c18b0
                      try clear c18b1
                      try clear c20
                      try clear c20b0
                      try clear c24
                      try clear c24b0
                      try clear c25
                      try clear c25b0
                      try clear c25b1
                      try clear c26
                      try clear c26b0
                      try clear c29
                      try clear c29b0
                      try clear c33
                      try clear c33b0
                      try clear c33b1
                      try clear c34
                      try clear c34b0
                      try clear c34b1
                      try clear c35
                      try clear c35b0
                      try clear c35b1
                      try clear hcz12_0
                      try clear hcz12_1
                      try clear hcz12_2
                      try clear hcz12_3
                      try clear hcz12_4
                      try clear hcz12_5
                      try clear hcz19_0
                      try clear hcz19_1
                      try clear hcz19_2
                      try clear hcz19_3
                      try clear hcz19_4
                      try clear hcz19_5
                      try clear hcz21_0
                      try clear hcz21_1
                      try clear hcz21_2
                      try clear hcz21_3
                      try clear hcz21_4
                      try clear hcz21_5
                      try clear hcz22_0
                      try clear hcz22_1
                      try clear hcz22_2
                      try clear hcz22_3
                      try clear hcz22_4
                      try clear hcz22_5
                      try clear hcz27_0
                      try clear hcz27_1
                      try clear hcz27_2
                      try clear hcz27_3
                      try clear hcz27_4
                      try clear hcz27_5
                      try clear hcz28_0
                      try clear hcz28_1
                      try clear hcz28_2
                      try clear hcz28_3
                      try clear hcz28_4
                      try clear hcz28_5
                      try clear hcz30_0
                      try clear hcz30_1
                      try clear hcz30_2
                      try clear hcz30_3
                      try clear hcz30_4
                      try clear hcz30_5
                      try clear hcz31_0
                      try clear hcz31_1
                      try clear hcz31_2
                      try clear hcz31_3
                      try clear hcz31_4
                      try clear hcz31_5
                      try clear hfz12_0
                      try clear hfz12_1
                      try clear hfz12_2
                      try clear hfz12_3
                      try clear hfz12_4
                      try clear hfz12_5
                      try clear hfz19_0
                      try clear hfz19_1
                      try clear hfz19_2
                      try clear hfz19_3
                      try clear hfz19_4
                      try clear hfz19_5
                      try clear hfz21_0
                      try clear hfz21_1
                      try clear hfz21_2
                      try clear hfz21_3
                      try clear hfz21_4
                      try clear hfz21_5
                      try clear hfz22_0
                      try clear hfz22_1
                      try clear hfz22_2
                      try clear hfz22_3
                      try clear hfz22_4
                      try clear hfz22_5
                      try clear hfz27_0
                      try clear hfz27_1
                      try clear hfz27_2
                      try clear hfz27_3
                      try clear hfz27_4
                      try clear hfz27_5
                      try clear hfz28_0
                      try clear hfz28_1
                      try clear hfz28_2
                      try clear hfz28_3
                      try clear hfz28_4
                      try clear hfz28_5
                      try clear hfz30_0
                      try clear hfz30_1
                      try clear hfz30_2
                      try clear hfz30_3
                      try clear hfz30_4
                      try clear hfz30_5
                      try clear hfz31_0
                      try clear hfz31_1
                      try clear hfz31_2
                      try clear hfz31_3
                      try clear hfz31_4
                      try clear hfz31_5
                      try clear p2
                      try clear p6
                      obtain ⟨kq, x51_31, rfl, HA, HJ31, BK107, HB⟩ := hcut
                      cases kq with
                      | zero => exact absurd HA.out (by simp [usherref17_Seats.j7])
                      | succ kj31 =>
                        have H := HA.out
                        clear HA
                        simp only [usherref17_Seats.j7] at H
                        by_cases c36 : x51_31 = true
                        · subst c36
                          have H1 : (if a2_5 > x0_3 then (if 2 > x1_8 then (some x1_8) else (some 2)) else (if 1 > x1_8 then (some x1_8) else (some 1))) = some r := by rw [if_pos rfl] at H; exact H
                          clear H
                          have H := H1
                          clear H1
                          by_cases c37 : a2_5 > x0_3
                          · rw [if_pos c37] at H
                            have c37b0 : decide (x0_3 < a2_5) = true := decide_eq_true c37
                            clear c37
                            by_cases c38 : 2 > x1_8
                            · rw [if_pos c38] at H
                              have c38b0 : decide (x1_8 < 2) = true := decide_eq_true c38
                              clear c38
                              obtain rfl := Option.some.inj H
                              go_wp2
                              go_ret
                              exact ⟨by first | rfl | (simp [errW_none, errW_some] <;> rfl) | (simp [*, errW_none, errW_some] <;> rfl), by repeat (first | (with_reducible first | exact HB.out | apply below_alloc | apply pw_below_drewN | apply below_drew1 | refine below_set ?_ GE107.out) | exact HB.out)⟩
                            · rw [if_neg c38] at H
                              have c38b0 : decide (x1_8 < 2) = false := decide_eq_false c38
                              clear c38
                              obtain rfl := Option.some.inj H
                              go_wp2
                              go_ret
                              exact ⟨by first | rfl | (simp [errW_none, errW_some] <;> rfl) | (simp [*, errW_none, errW_some] <;> rfl), by repeat (first | (with_reducible first | exact HB.out | apply below_alloc | apply pw_below_drewN | apply below_drew1 | refine below_set ?_ GE107.out) | exact HB.out)⟩
                          · rw [if_neg c37] at H
                            have c37b0 : decide (x0_3 < a2_5) = false := decide_eq_false c37
                            clear c37
                            by_cases c39 : 1 > x1_8
                            · rw [if_pos c39] at H
                              have c39b0 : decide (x1_8 < 1) = true := decide_eq_true c39
                              clear c39
                              obtain rfl := Option.some.inj H
                              go_wp2
                              go_ret
                              exact ⟨by first | rfl | (simp [errW_none, errW_some] <;> rfl) | (simp [*, errW_none, errW_some] <;> rfl), by repeat (first | (with_reducible first | exact HB.out | apply below_alloc | apply pw_below_drewN | apply below_drew1 | refine below_set ?_ GE107.out) | exact HB.out)⟩
                            · rw [if_neg c39] at H
                              have c39b0 : decide (x1_8 < 1) = false := decide_eq_false c39
                              clear c39
                              obtain rfl := Option.some.inj H
                              go_wp2
                              go_ret
                              exact ⟨by first | rfl | (simp [errW_none, errW_some] <;> rfl) | (simp [*, errW_none, errW_some] <;> rfl), by repeat (first | (with_reducible first | exact HB.out | apply below_alloc | apply pw_below_drewN | apply below_drew1 | refine below_set ?_ GE107.out) | exact HB.out)⟩
                        · replace c36 := Bool.eq_false_iff.mpr c36
                          subst c36
                          have H1 : (if 1 > x1_8 then (some x1_8) else (some 1)) = some r := by rw [if_neg (show ¬ (false = true) by decide)] at H; exact H
                          clear H
                          have H := H1
                          clear H1
                          by_cases c40 : 1 > x1_8
                          · rw [if_pos c40] at H
                            have c40b0 : decide (x1_8 < 1) = true := decide_eq_true c40
                            clear c40
                            obtain rfl := Option.some.inj H
                            go_wp2
                            go_ret
                            exact ⟨by first | rfl | (simp [errW_none, errW_some] <;> rfl) | (simp [*, errW_none, errW_some] <;> rfl), by repeat (first | (with_reducible first | exact HB.out | apply below_alloc | apply pw_below_drewN | apply below_drew1 | refine below_set ?_ GE107.out) | exact HB.out)⟩
                          · rw [if_neg c40] at H
                            have c40b0 : decide (x1_8 < 1) = false := decide_eq_false c40
                            clear c40
                            obtain rfl := Option.some.inj H
                            go_wp2
                            go_ret
                            exact ⟨by first | rfl | (simp [errW_none, errW_some] <;> rfl) | (simp [*, errW_none, errW_some] <;> rfl), by repeat (first | (with_reducible first | exact HB.out | apply below_alloc | apply pw_below_drewN | apply below_drew1 | refine below_set ?_ GE107.out) | exact HB.out)⟩

end Go.Proofs.Yteiejbkohnokaaa.PWidthAll
