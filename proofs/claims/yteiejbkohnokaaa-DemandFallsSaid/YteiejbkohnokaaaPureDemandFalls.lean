/- Of a most that stays the same the smoothed number is this most behind 50 Turns: the printed function of the law DemandFalls answers true at all whole numbers of 64 bits. -/
import Derived.Test.YteiejbkohnokaaaPDemandFallsx2
import Derived.Test.YteiejbkohnokaaaDemandMath
namespace Go.Proofs.Yteiejbkohnokaaa.Pure
open Go.RowKit Go.Proofs.Yteiejbkohnokaaa.PDemandFalls Go.Proofs.YteiejbkohnokaaaW.PrintWords Go.Proofs.YteiejbkohnokaaaW.PrintLast Go.Proofs.YteiejbkohnokaaaW.PrintMore Go.Proofs.Yteiejbkohnokaaa.DemandMath

theorem DemandFalls.in_is (a : Int) : demand_in.f a = some (cl a) := rfl
theorem DemandFalls.turn_is (a b c : Int) : demand_Turn.f a b c = some (cl c, sm (cl a) (cl b)) := by
  have ha := cl_range a
  have hb := cl_range b
  rw [← turn_gen ha.1 ha.2 hb.1 hb.2]
  unfold demand_Turn.f
  rw [DemandFalls.in_is, DemandFalls.in_is, DemandFalls.in_is]
  simp only [Option.bind_some]
  split <;> rfl
theorem DemandFalls.awake_is : usherlaw19_awake.f = some true := by decide +kernel

theorem DemandFalls.loop (x : Int) : ∀ (n k : Nat) (i h s d : Int), n < k → i + n = 50 → 0 ≤ i → cl h = cl x → (n < 50 → h = cl x ∧ 0 ≤ s ∧ s ≤ 1048576 ∧ cl x ≤ s) → cl s - cl x ≤ d → 0 ≤ d → fall n d ≤ 0 → (n = 0 → h = cl x ∧ s = cl s ∧ cl x ≤ s) →
    usherlaw19_DemandFalls.l0 k x i h s = some true := by
  intro n
  induction n with
  | zero =>
    intro k i h s d hk hi hi0 hh h1 hs hd hf h0
    obtain ⟨k, rfl⟩ : ∃ m, k = m + 1 := ⟨k - 1, by omega⟩
    obtain ⟨e1, e2, e3⟩ := h0 rfl
    have : d ≤ 0 := hf
    simp only [usherlaw19_DemandFalls.l0]
    rw [if_neg (by omega), if_pos (show s = mn (mx x 0) 1048576 from (show s = cl x by omega)), e1, show s = cl x by omega]
    simp
  | succ n ih =>
    intro k i h s d hk hi hi0 hh h1 hs hd hf h0
    obtain ⟨k, rfl⟩ : ∃ m, k = m + 1 := ⟨k - 1, by omega⟩
    have hx := cl_range x
    have hy := cl_range s
    have hr := sm_range hx.1 hx.2 hy.1 hy.2
    have hf' := sm_falls hs hd
    have e : wrap64 (i + 1) = i + 1 := by unfold wrap64; omega
    simp only [usherlaw19_DemandFalls.l0]
    rw [if_pos (by omega), DemandFalls.turn_is, hh, e]
    simp only [Option.bind_some]
    have ec : cl (sm (cl x) (cl s)) = sm (cl x) (cl s) := cl_id hr.1 hr.2.1
    exact ih k (i + 1) (cl x) (sm (cl x) (cl s)) (3 * d / 4) (by omega) (by omega) (by omega) (cl_id hx.1 hx.2) (fun _ => ⟨rfl, hr.1, hr.2.1, hr.2.2⟩) (by rw [ec]; exact hf') (by omega) hf (fun _ => ⟨rfl, ec.symm, hr.2.2⟩)

theorem DemandFalls (a b x : Int) : ∃ k, usherlaw19_DemandFalls.f k a b x = some true := by
  refine ⟨51, ?_⟩
  unfold usherlaw19_DemandFalls.f
  rw [DemandFalls.awake_is]
  simp only [Option.bind_some, if_true]
  have hb := cl_range b
  have hx := cl_range x
  exact DemandFalls.loop x 50 51 0 x b 1048576 (by omega) (by omega) (by omega) rfl (fun h => by omega) (by omega) (by omega) fall_all (fun h => by omega)
end Go.Proofs.Yteiejbkohnokaaa.Pure
