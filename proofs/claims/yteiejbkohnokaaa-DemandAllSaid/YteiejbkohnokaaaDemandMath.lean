/- Numbers of seats as they count, and how the smoothed number falls; plain arithmetic without the program; no condition. -/
import Derived.Test.YteiejbkohnokaaaWWords
import Derived.Test.YteiejbkohnokaaaWMore
namespace Go.Proofs.Yteiejbkohnokaaa.DemandMath
open Go.RowKit Go.Proofs.YteiejbkohnokaaaW.PrintWords Go.Proofs.YteiejbkohnokaaaW.PrintMore

/-- As a number of seats counts. -/
def cl (a : Int) : Int := mn (mx a 0) 1048576
theorem cl_range (a : Int) : 0 ≤ cl a ∧ cl a ≤ 1048576 := by unfold cl mn mx; split <;> split <;> omega
theorem cl_id {a : Int} (h0 : 0 ≤ a) (h1 : a ≤ 1048576) : cl a = a := by unfold cl mn mx; split <;> split <;> omega
/-- The smoothed number behind a turn. -/
def sm (h s : Int) : Int := if s - h > 0 then s - (s - h + 3) / 4 else h
theorem turn_gen {h s : Int} (h0 : 0 ≤ h) (h1 : h ≤ 1048576) (s0 : 0 ≤ s) (s1 : s ≤ 1048576) :
    (if (wrap64 (s - h)) > 0 then wrap64 (s - (wrap64 (Int.tdiv (wrap64 ((wrap64 (s - h)) + 3)) 4))) else h) = sm h s := by
  have e1 : wrap64 (s - h) = s - h := by unfold wrap64; omega
  unfold sm
  rw [e1]
  by_cases c : s - h > 0
  · rw [if_pos c, if_pos c]
    have e2 : wrap64 (s - h + 3) = s - h + 3 := by unfold wrap64; omega
    have e3 : Int.tdiv (s - h + 3) 4 = (s - h + 3) / 4 := Int.tdiv_eq_ediv_of_nonneg (by omega)
    have e4 : wrap64 ((s - h + 3) / 4) = (s - h + 3) / 4 := by unfold wrap64; omega
    rw [e2, e3, e4]
    unfold wrap64; omega
  · rw [if_neg c, if_neg c]
theorem sm_range {h s : Int} (h0 : 0 ≤ h) (h1 : h ≤ 1048576) (s0 : 0 ≤ s) (s1 : s ≤ 1048576) : 0 ≤ sm h s ∧ sm h s ≤ 1048576 ∧ h ≤ sm h s := by
  unfold sm; split <;> omega
/-- How far it is above the most at the most behind so many turns more. -/
def fall : Nat → Int → Int
  | 0, d => d
  | n + 1, d => fall n (3 * d / 4)
theorem fall_mono : ∀ (n : Nat) (d e : Int), d ≤ e → fall n d ≤ fall n e
  | 0, _, _, h => h
  | n + 1, d, e, h => fall_mono n _ _ (by omega)
theorem fall_all : fall 50 1048576 ≤ 0 := by decide +kernel
theorem sm_falls {h s d : Int} (hs : s - h ≤ d) (hd : 0 ≤ d) : sm h s - h ≤ 3 * d / 4 := by
  unfold sm; split <;> omega
end Go.Proofs.Yteiejbkohnokaaa.DemandMath
