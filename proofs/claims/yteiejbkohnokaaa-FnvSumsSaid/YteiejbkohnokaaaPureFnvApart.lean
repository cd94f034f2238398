/- From two other beginnings one text leads to two other hashes: the printed function of the law FnvApart answers true at all words and at each text whose size is within the reach. -/
import Derived.Test.YteiejbkohnokaaaPFnvApartx1
import Derived.Test.YteiejbkohnokaaaFnvMath
namespace Go.Proofs.Yteiejbkohnokaaa.Pure
open Go.RowKit Go.Proofs.Yteiejbkohnokaaa.PFnvApart Go.Proofs.YteiejbkohnokaaaW.PrintWords Go.Proofs.YteiejbkohnokaaaW.PrintLast Go.Proofs.Yteiejbkohnokaaa.FnvMath

theorem FnvApart.more_is (s : ByteArray) (hs : s.size ≤ 140737488351232) (k h : Nat) (hk : s.size < k) (hh : h < 18446744073709551616) : fnv_More.f k (h : Int) s = some ((hashN h s.data.toList : Nat) : Int) := by
  have e := loop_gen fnv_More.l0 (fun _ _ _ _ _ => rfl) s (by omega) s.size k 0 h (by omega) (by omega) hk hh
  rw [List.drop_zero] at e
  exact e

theorem FnvApart.awake_is (k : Nat) (hk : 7 ≤ k) : usherlaw06_awake.f k = some true := by
  unfold usherlaw06_awake.f fnv_Sum.f
  rw [show (14695981039346656037 : Int) = ((14695981039346656037 : Nat) : Int) from rfl, more_is _ (by decide) k _ (by show 6 < k; omega) (by decide)]
  show some (((hashN 14695981039346656037 [102, 111, 111, 98, 97, 114] : Nat) : Int) == 9625390261332436968) = some true
  rw [awake_sum]; rfl

theorem FnvApart : usherlaw06_FnvApart.Pure := by
  intro a b s wa wb hs
  obtain ⟨a0, a1⟩ := wf_u64 wa
  obtain ⟨b0, b1⟩ := wf_u64 wb
  obtain ⟨g, rfl⟩ := Int.eq_ofNat_of_zero_le a0
  obtain ⟨h, rfl⟩ := Int.eq_ofNat_of_zero_le b0
  have hg : g < 18446744073709551616 := by omega
  have hh : h < 18446744073709551616 := by omega
  clear wa wb a0 a1 b0 b1
  refine ⟨s.size + 7, ?_⟩
  unfold usherlaw06_FnvApart.f
  rw [FnvApart.awake_is _ (by omega)]
  simp only [Option.bind_some, if_true]
  split
  · rfl
  · rw [FnvApart.more_is s hs _ g (by omega) hg, FnvApart.more_is s hs _ h (by omega) hh]
    simp only [Option.bind_some, Option.some.injEq]
    by_cases e : g = h
    · subst e; simp
    · have n : hashN g s.data.toList ≠ hashN h s.data.toList := fun x => e (hashN_inj _ g h hg hh x)
      have e1 : ((g : Int) == (h : Int)) = false := by rw [beq_eq_false_iff_ne]; omega
      have e2 : (((hashN g s.data.toList : Nat) : Int) == ((hashN h s.data.toList : Nat) : Int)) = false := by rw [beq_eq_false_iff_ne]; omega
      rw [e1, e2]; rfl

end Go.Proofs.Yteiejbkohnokaaa.Pure
