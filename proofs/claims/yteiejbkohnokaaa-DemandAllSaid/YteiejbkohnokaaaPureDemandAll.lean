/- Any demand goes on as the document says, whatever is wanted: the function of the law DemandAll answers true at all whole numbers of 64 bits. -/
import Derived.Test.YteiejbkohnokaaaOwnDemandB
import Derived.Test.YteiejbkohnokaaaDemandMath
namespace Go.Proofs.Yteiejbkohnokaaa.Pure
open Go.RowKit Go.Proofs.Yteiejbkohnokaaa.PDemandAll Go.Proofs.YteiejbkohnokaaaW.PrintWords Go.Proofs.YteiejbkohnokaaaW.PrintLast Go.Proofs.YteiejbkohnokaaaW.PrintMore Go.Proofs.Yteiejbkohnokaaa.DemandMath

theorem DemandAll.in_is (a : Int) : demand_in.f a = some (cl a) := rfl
theorem DemandAll.ref_in_is (a : Int) : usherref19_In.f a = some (cl a) := by
  unfold usherref19_In.f cl mn mx
  split <;> split <;> first | rfl | (exfalso; omega)
theorem DemandAll.note_is (a b c : Int) : demand_Note.f a b c = some (mx (cl a) (cl c), cl b) := rfl
theorem DemandAll.ref_note_is (a b c : Int) : usherref19_Note.f a b c = some (mx (cl a) (cl c), cl b) := by
  unfold usherref19_Note.f
  rw [DemandAll.ref_in_is, DemandAll.ref_in_is, DemandAll.ref_in_is]
  simp only [Option.bind_some]
  generalize cl a = x
  generalize cl c = y
  unfold mx
  by_cases h : y > x
  · rw [if_pos h, if_pos (by omega)]
  · rw [if_neg h]
    split
    · omega
    · rfl
theorem DemandAll.turn_is (a b c : Int) : demand_Turn.f a b c = some (cl c, sm (cl a) (cl b)) := by
  have ha := cl_range a
  have hb := cl_range b
  rw [← turn_gen ha.1 ha.2 hb.1 hb.2]
  unfold demand_Turn.f
  rw [DemandAll.in_is, DemandAll.in_is, DemandAll.in_is]
  simp only [Option.bind_some]
  split <;> rfl
theorem DemandAll.ref_turn_is (a b c : Int) : usherref19_Turn.f a b c = some (cl c, sm (cl a) (cl b)) := by
  have ha := cl_range a
  have hb := cl_range b
  unfold usherref19_Turn.f
  rw [DemandAll.ref_in_is, DemandAll.ref_in_is, DemandAll.ref_in_is]
  simp only [Option.bind_some]
  generalize cl a = h at *
  generalize cl b = s at *
  unfold sm
  by_cases g : h ≥ s
  · rw [if_pos g, if_neg (by omega)]
  · rw [if_neg g, if_pos (show s - h > 0 by omega)]
    have e1 : wrap64 (s - h) = s - h := by unfold wrap64; omega
    have e3 : Int.tdiv (s - h) 4 = (s - h) / 4 := Int.tdiv_eq_ediv_of_nonneg (by omega)
    have e4 : wrap64 ((s - h) / 4) = (s - h) / 4 := by unfold wrap64; omega
    have e5 : wrap64 (4 * ((s - h) / 4)) = 4 * ((s - h) / 4) := by unfold wrap64; omega
    have e6 : wrap64 ((s - h) / 4 + 1) = (s - h) / 4 + 1 := by unfold wrap64; omega
    rw [e1, e3, e4, e5, e6]
    split
    · have e7 : wrap64 (s - ((s - h) / 4 + 1)) = s - ((s - h) / 4 + 1) := by unfold wrap64; omega
      rw [e7, show s - ((s - h) / 4 + 1) = s - (s - h + 3) / 4 by omega]
    · have e7 : wrap64 (s - (s - h) / 4) = s - (s - h) / 4 := by unfold wrap64; omega
      rw [e7, show s - (s - h) / 4 = s - (s - h + 3) / 4 by omega]
theorem DemandAll.awake_is : usherlaw19_awake.f = some true := by decide +kernel

theorem DemandAll (a b c : Int) : usherlaw19_DemandAll.f a b c = some true := by
  unfold usherlaw19_DemandAll.f
  rw [DemandAll.awake_is]
  simp only [Option.bind_some, if_true]
  rw [DemandAll.note_is, DemandAll.ref_note_is, DemandAll.turn_is, DemandAll.ref_turn_is]
  simp
end Go.Proofs.Yteiejbkohnokaaa.Pure
