/- Any request takes the document's seats, whatever a seat and the most are: the function of the law WidthAll answers true at all whole numbers of 64 bits and all requests. -/
import Derived.Test.YteiejbkohnokaaaOwnWidthB
import Derived.Test.YteiejbkohnokaaaSeatsIs
namespace Go.Proofs.Yteiejbkohnokaaa.Pure
open Go.RowKit Go.Proofs.Yteiejbkohnokaaa.PWidthAll Go.Proofs.YteiejbkohnokaaaW.PrintWords Go.Proofs.YteiejbkohnokaaaW.PrintLast Go.Proofs.YteiejbkohnokaaaW.PrintMore Go.Proofs.Yteiejbkohnokaaa.WidthMath Go.Proofs.Yteiejbkohnokaaa.SeatsIs

/-- What the reference makes of the number of a list's seats. -/
def finI (v : ByteArray) (M n : Int) : Int := if v.toList = delcolW then mn (mx n 1 + 1) M else mn (mx n 1) M

theorem WidthAll.last (k : Nat) (P M x7 x8 : Int) (u : ByteArray) (g : List ByteArray) (v r s : ByteArray) (o : Int) (h1 : x8 ≤ M) (hM : 1 ≤ M) (hM1 : M ≤ 16) :
    usherref17_Seats.j5 (k + 2) P M x7 x8 false u g v r s o = some (finI v M x8) := by
  simp only [usherref17_Seats.j5]
  rw [if_neg (by decide)]
  have six : ∀ n : Int, 1 ≤ n → n ≤ M → usherref17_Seats.j6 (k + 1) M n u g v r s o = some (if v.toList = delcolW then mn (n + 1) M else mn n M) := by
    intro n n1 nM
    have w : wrap64 (n + 1) = n + 1 := by unfold wrap64; omega
    simp only [usherref17_Seats.j6]
    change (if v.toList = delcolW then (if (wrap64 (n + 1)) > M then (some M) else (some (wrap64 (n + 1)))) else (if n > M then (some M) else (some n))) = _
    rw [w]
    unfold mn
    split <;> split <;> simp_all <;> omega
  unfold finI mx
  by_cases h : x8 < 1
  · rw [if_pos h, six 1 (by omega) hM, if_pos h]
  · rw [if_neg h, six x8 (by omega) h1, if_neg h]

theorem WidthAll.loop (P M : Int) (u : ByteArray) (g : List ByteArray) (v r s : ByteArray) (o : Int) (hP : 1 ≤ P) (hP1 : P ≤ 9223372036854775807) (hM : 1 ≤ M) (hM1 : M ≤ 16) :
    ∀ (d k : Nat) (x7 x8 : Int), M - x8 = d → 2 * d + 3 < k → 0 ≤ x8 → x8 ≤ M → x7 ≤ 9223372036854775807 →
      usherref17_Seats.l0 k P M x7 x8 u g v r s o = some (finI v M (mn (x8 + uI P (spOf s) x7) M)) := by
  intro d
  induction d with
  | zero =>
    intro k x7 x8 hd hk h0 h1 h7
    obtain ⟨k, rfl⟩ : ∃ m, k = m + 3 := ⟨k - 3, by omega⟩
    have hu := uI_nonneg hP (spOf s) x7
    have e : mn (x8 + uI P (spOf s) x7) M = x8 := by unfold mn; split <;> omega
    simp only [usherref17_Seats.l0]
    rw [e]
    split
    · rw [decide_eq_false (show ¬ x8 < M by omega)]
      exact WidthAll.last k P M x7 x8 u g v r s o h1 hM hM1
    · exact WidthAll.last k P M x7 x8 u g v r s o h1 hM hM1
  | succ d ih =>
    intro k x7 x8 hd hk h0 h1 h7
    obtain ⟨k, rfl⟩ : ∃ m, k = m + 3 := ⟨k - 3, by omega⟩
    simp only [usherref17_Seats.l0]
    by_cases hx : x7 > 0
    · rw [if_pos hx, decide_eq_true (show x8 < M by omega)]
      have w1 : wrap64 (x7 - P) = x7 - P := by unfold wrap64; omega
      have w2 : wrap64 (x8 + 1) = x8 + 1 := by unfold wrap64; omega
      simp only [usherref17_Seats.j5]
      rw [if_pos trivial, w1, w2]
      by_cases e : s.toList = ([] : List UInt8)
      · have hs : spOf s = false := by unfold spOf; rw [e]; rfl
        rw [if_pos e, ih (k + 1) (x7 - P) (x8 + 1) (by omega) (by omega) (by omega) (by omega) (by omega), hs, uI_one hP hx, Int.add_assoc]
      · have hs : spOf s = true := by unfold spOf; exact decide_eq_true e
        rw [if_neg e]
        by_cases hy : x7 - P > 0
        · have w3 : wrap64 (x7 - P - P) = x7 - P - P := by unfold wrap64; omega
          rw [if_pos hy, w3, ih (k + 1) (x7 - P - P) (x8 + 1) (by omega) (by omega) (by omega) (by omega) (by omega), hs, uI_two hP hx hy, Int.add_assoc]
        · rw [if_neg hy, ih (k + 1) (x7 - P) (x8 + 1) (by omega) (by omega) (by omega) (by omega) (by omega), hs, uI_half hP hx (by omega), uI_zero true (by omega), Int.add_zero]
    · rw [if_neg hx, uI_zero _ (by omega), Int.add_zero]
      have e : mn x8 M = x8 := by unfold mn; split <;> omega
      rw [e]
      exact WidthAll.last (k + 0) P M x7 x8 u g v r s o h1 hM hM1

theorem WidthAll.ref_is (a b : Int) (u : ByteArray) (g : List ByteArray) (v r s : ByteArray) (o : Int) (ha : a ≤ 9223372036854775807) (ho : o ≤ 9223372036854775807) :
    usherref17_Seats.f 100 a b u g v r s o = some (seatsI (cls v.toList) (perOf a) (mostOf b) (objOf o) (spOf s)) := by
  have hP := per_pos a
  have hP1 : perOf a ≤ 9223372036854775807 := by unfold perOf mx; split <;> omega
  have hM := most_range b
  have e0 : usherref17_Seats.f 100 a b u g v r s o = usherref17_Seats.j0 100 (perOf a) b u g v r s o := by
    unfold usherref17_Seats.f perOf mx; split <;> rfl
  have e1 : usherref17_Seats.j0 100 (perOf a) b u g v r s o = usherref17_Seats.j1 99 (perOf a) (mx b 1) u g v r s o := by
    rw [show (100 : Nat) = 99 + 1 from rfl]; simp only [usherref17_Seats.j0]; unfold mx; split <;> rfl
  have e2 : usherref17_Seats.j1 99 (perOf a) (mx b 1) u g v r s o = usherref17_Seats.j2 98 (perOf a) (mostOf b) u g v r s o := by
    rw [show (99 : Nat) = 98 + 1 from rfl]; simp only [usherref17_Seats.j1]; unfold mostOf mn; split <;> rfl
  rw [e0, e1, e2, show (98 : Nat) = 97 + 1 from rfl]
  have lp := WidthAll.loop (perOf a) (mostOf b) u g v r s o hP hP1 hM.1 hM.2
  have lp0 := lp (mostOf b).toNat 96 o 0 (by omega) (by omega) (by decide) (by omega) ho
  have hu : uI (perOf a) (spOf s) o = uI (perOf a) (spOf s) (objOf o) := by
    by_cases h : 0 ≤ o
    · rw [show objOf o = o by unfold objOf mx; split <;> omega]
    · rw [uI_zero _ (by omega), show objOf o = 0 by unfold objOf mx; split <;> omega, uI_zero _ (by omega)]
  have hu0 := uI_nonneg hP (spOf s) (objOf o)
  rw [hu, Int.zero_add] at lp0
  generalize hUe : uI (perOf a) (spOf s) (objOf o) = U at lp0 hu hu0
  have obj : (o > perOf a) ↔ (objOf o > perOf a) := by unfold objOf mx; split <;> omega
  generalize hPe : perOf a = P at *
  generalize hMe : mostOf b = M at *
  have fu : mx (mn U M) 1 = mn (mx U 1) M := by unfold mn mx; split <;> split <;> (try split) <;> omega
  simp only [usherref17_Seats.j2]
  unfold cls
  change (if v.toList = listW then (usherref17_Seats.j3 97 P M o 0 v (v.toList == listW) u g v r s o) else (usherref17_Seats.j3 97 P M o 0 v (v.toList == delcolW) u g v r s o)) = _
  have yes : usherref17_Seats.j3 97 P M o 0 v true u g v r s o = some (finI v M (mn U M)) := by
    rw [show (97 : Nat) = 96 + 1 from rfl]; simp only [usherref17_Seats.j3]; rw [if_pos trivial]; exact lp0
  have seven : usherref17_Seats.j7 96 P M o true = some (seatsI 3 P M (objOf o) (spOf s)) := by
    rw [show (96 : Nat) = 95 + 1 from rfl]
    simp only [usherref17_Seats.j7]
    rw [if_pos trivial, show seatsI 3 P M (objOf o) (spOf s) = mn (if objOf o > P then 2 else 1) M from rfl]
    unfold mn
    by_cases hc : o > P
    · rw [if_pos hc, if_pos (obj.1 hc)]; split <;> first | rfl | (split <;> first | rfl | (exfalso; omega))
    · rw [if_neg hc, if_neg (fun x => hc (obj.2 x))]; split <;> first | rfl | (split <;> first | rfl | (exfalso; omega))
  have none_ : usherref17_Seats.j7 96 P M o false = some (seatsI 0 P M (objOf o) (spOf s)) := by
    rw [show (96 : Nat) = 95 + 1 from rfl]
    simp only [usherref17_Seats.j7]
    rw [if_neg (by decide), show seatsI 0 P M (objOf o) (spOf s) = mn 1 M from rfl]
    unfold mn
    split <;> first | rfl | (split <;> first | rfl | (exfalso; omega))
  by_cases h1 : v.toList = delcolW
  · have hl : v.toList ≠ listW := by rw [h1]; decide
    rw [if_neg hl, if_pos h1, beq_iff_eq.2 h1, yes]
    unfold finI seatsI
    rw [if_pos h1, if_pos rfl, fu, Int.add_comm, hUe]
  rw [if_neg h1]
  by_cases h2 : v.toList = listW
  · rw [if_pos h2, if_pos h2, beq_iff_eq.2 h2, yes]
    unfold finI seatsI
    rw [if_neg h1, if_neg (by decide), if_pos rfl, fu, hUe]
  rw [if_neg h2, if_neg h2, beq_eq_false_iff_ne.2 h1, show (97 : Nat) = 96 + 1 from rfl]
  simp only [usherref17_Seats.j3]
  change (if false = true then _ else (if v.toList = createW then (usherref17_Seats.j7 96 P M o (v.toList == createW)) else (if v.toList = updateW then (usherref17_Seats.j7 96 P M o (v.toList == updateW)) else (if v.toList = patchW then (usherref17_Seats.j7 96 P M o (v.toList == patchW)) else (usherref17_Seats.j7 96 P M o (v.toList == deleteW)))))) = _
  rw [if_neg (by decide)]
  by_cases h3 : v.toList = createW
  · rw [if_pos h3, if_pos h3, beq_iff_eq.2 h3, seven]
  rw [if_neg h3, if_neg h3]
  by_cases h4 : v.toList = updateW
  · rw [if_pos h4, if_pos h4, beq_iff_eq.2 h4, seven]
  rw [if_neg h4, if_neg h4]
  by_cases h5 : v.toList = patchW
  · rw [if_pos h5, if_pos h5, beq_iff_eq.2 h5, seven]
  rw [if_neg h5, if_neg h5]
  by_cases h6 : v.toList = deleteW
  · rw [if_pos h6, beq_iff_eq.2 h6, seven]
  rw [if_neg h6, beq_eq_false_iff_ne.2 h6, none_]

theorem WidthAll.small_is (u : ByteArray) (g : List ByteArray) (v r s : ByteArray) (o : Int) (hg : g.length ≤ 9223372036854775807) : ∃ k t, usherref15_Small.f k u g v r s o = some t := by
  have loop : ∀ (d k : Nat) (i : Int), (g.length : Int) - i = d → d < k → 0 ≤ i → ∃ t, usherref15_Small.l0 k i u g v r s o = some t := by
    intro d
    induction d with
    | zero =>
      intro k i hd hk hi
      obtain ⟨k, rfl⟩ : ∃ m, k = m + 1 := ⟨k - 1, by omega⟩
      simp only [usherref15_Small.l0]
      rw [if_neg (by omega)]; exact ⟨_, rfl⟩
    | succ d ih =>
      intro k i hd hk hi
      obtain ⟨k, rfl⟩ : ∃ m, k = m + 1 := ⟨k - 1, by omega⟩
      simp only [usherref15_Small.l0]
      have w : wrap64 (i + 1) = i + 1 := by unfold wrap64; omega
      rw [if_pos (by omega), if_pos hi, w]
      split
      · exact ⟨_, rfl⟩
      · exact ih k (i + 1) (by omega) (by omega) (by omega)
  have j0 : ∀ b : Bool, ∃ t, usherref15_Small.j0 (g.length + 2) b u g v r s o = some t := by
    intro b
    rw [show g.length + 2 = (g.length + 1) + 1 from rfl]
    simp only [usherref15_Small.j0]
    split
    · exact ⟨_, rfl⟩
    · exact loop g.length (g.length + 1) 0 (by omega) (by omega) (by omega)
  refine ⟨g.length + 2, ?_⟩
  unfold usherref15_Small.f
  split
  · exact j0 _
  split
  · exact j0 _
  split
  · exact j0 _
  split
  · exact j0 _
  · exact j0 _

theorem WidthAll (a b : Int) (u : ByteArray) (g : List ByteArray) (v r s : ByteArray) (o : Int) (hg : g.length ≤ 9223372036854775807) (ha : a ≤ 9223372036854775807) (ho : o ≤ 9223372036854775807) :
    ∃ k, usherlaw17_WidthAll.f k a b u g v r s o = some true := by
  obtain ⟨k, t, hk⟩ := WidthAll.small_is u g v r s o hg
  refine ⟨k + 101, ?_⟩
  have e1 := at_rounds (fun k => usherref15_Small.mono u g v r s o k) (show k ≤ k + 101 by omega) hk
  have e2 := at_rounds (fun k => usherref17_Seats.mono a b u g v r s o k) (show 100 ≤ k + 101 by omega) (WidthAll.ref_is a b u g v r s o ha ho)
  unfold usherlaw17_WidthAll.f
  rw [show k + 101 = (k + 100) + 1 from rfl, SeatsIs.awake_is]
  simp only [Option.bind_some, if_true]
  rw [show k + 100 + 1 = k + 101 from rfl, e1]
  simp only [Option.bind_some]
  split
  · rw [show k + 101 = (k + 100) + 1 from rfl, seats_is _ a b u g v r s o ho, show k + 100 + 1 = k + 101 from rfl, e2]
    simp
  · rfl
end Go.Proofs.Yteiejbkohnokaaa.Pure
