/- Behind a Turn the smoothed number is not below what the most was, and not above what both were: the printed function of the law DemandKeeps answers true at all whole numbers of 64 bits. -/
import Derived.Test.YteiejbkohnokaaaPDemandKeepsx2
import Derived.Test.YteiejbkohnokaaaDemandMath
namespace Go.Proofs.Yteiejbkohnokaaa.Pure
open Go.RowKit Go.Proofs.Yteiejbkohnokaaa.PDemandKeeps Go.Proofs.YteiejbkohnokaaaW.PrintWords Go.Proofs.YteiejbkohnokaaaW.PrintLast Go.Proofs.YteiejbkohnokaaaW.PrintMore Go.Proofs.Yteiejbkohnokaaa.DemandMath

theorem DemandKeeps.in_is (a : Int) : demand_in.f a = some (cl a) := rfl
theorem DemandKeeps.note_is (a b c : Int) : demand_Note.f a b c = some (mx (cl a) (cl c), cl b) := rfl
theorem DemandKeeps.turn_is (a b c : Int) : demand_Turn.f a b c = some (cl c, sm (cl a) (cl b)) := by
  have ha := cl_range a
  have hb := cl_range b
  rw [← turn_gen ha.1 ha.2 hb.1 hb.2]
  unfold demand_Turn.f
  rw [DemandKeeps.in_is, DemandKeeps.in_is, DemandKeeps.in_is]
  simp only [Option.bind_some]
  split <;> rfl
theorem DemandKeeps.awake_is : usherlaw19_awake.f = some true := by decide +kernel

theorem DemandKeeps : usherlaw19_DemandKeeps.Pure := by
  intro h s c _ _ _
  have hh := cl_range h
  have hs := cl_range s
  have e : cl (mx (cl 0) (cl h)) = cl h := by
    have : cl 0 = 0 := rfl
    rw [this, show mx 0 (cl h) = cl h by unfold mx; split <;> omega]
    exact cl_id hh.1 hh.2
  have es : cl (cl s) = cl s := cl_id hs.1 hs.2
  unfold usherlaw19_DemandKeeps.f
  rw [DemandKeeps.awake_is]
  simp only [Option.bind_some, if_true]
  rw [DemandKeeps.note_is]
  simp only [Option.bind_some]
  rw [DemandKeeps.turn_is, e, es]
  simp only [Option.bind_some]
  show (if sm (cl h) (cl s) ≥ cl h then (if sm (cl h) (cl s) ≤ mx (cl h) (cl s) then (if cl s ≤ cl h then some (cl c == cl c) else (if sm (cl h) (cl s) < cl s then some (cl c == cl c) else some false)) else some false) else some false) = some true
  generalize cl h = x at *
  generalize cl s = y at *
  have k1 : x ≤ sm x y := (sm_range hh.1 hh.2 hs.1 hs.2).2.2
  have k2 : sm x y ≤ mx x y := by unfold sm mx; split <;> split <;> omega
  have k3 : ¬ y ≤ x → sm x y < y := by intro n; unfold sm; split <;> omega
  rw [if_pos k1, if_pos k2]
  split
  · simp
  · rename_i n
    rw [if_pos (k3 n)]; simp
end Go.Proofs.Yteiejbkohnokaaa.Pure
