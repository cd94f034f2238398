/- Two texts of which only the last byte is another have other hashes: the function of the law FnvLast answers true at each text within the reach and any two bytes. -/
import Derived.Test.YteiejbkohnokaaaOwnFnvLast
import Derived.Test.YteiejbkohnokaaaFnvMath
namespace Go.Proofs.Yteiejbkohnokaaa.Pure
open Go.RowKit Go.Proofs.Yteiejbkohnokaaa.PFnvLast Go.Proofs.YteiejbkohnokaaaW.PrintWords Go.Proofs.YteiejbkohnokaaaW.PrintLast Go.Proofs.Yteiejbkohnokaaa.FnvMath

theorem FnvLast.more_is (s : ByteArray) (hs : s.size ≤ 9223372036854775807) (k h : Nat) (hk : s.size < k) (hh : h < 18446744073709551616) : fnv_More.f k (h : Int) s = some ((hashN h s.data.toList : Nat) : Int) := by
  have e := loop_gen fnv_More.l0 (fun _ _ _ _ _ => rfl) s (by omega) s.size k 0 h (by omega) (by omega) hk hh
  rw [List.drop_zero] at e
  exact e

theorem FnvLast.sum_is (s : ByteArray) (hs : s.size ≤ 9223372036854775807) (k : Nat) (hk : s.size < k) : fnv_Sum.f k s = some ((hashN 14695981039346656037 s.data.toList : Nat) : Int) := by
  unfold fnv_Sum.f
  rw [show (14695981039346656037 : Int) = ((14695981039346656037 : Nat) : Int) from rfl, FnvLast.more_is _ hs k _ hk (by decide)]
  rfl

theorem FnvLast.awake_is (k : Nat) (hk : 7 ≤ k) : usherlaw06_awake.f k = some true := by
  unfold usherlaw06_awake.f
  rw [FnvLast.sum_is _ (by decide) k (by show 6 < k; omega)]
  show some (((hashN 14695981039346656037 [102, 111, 111, 98, 97, 114] : Nat) : Int) == 9625390261332436968) = some true
  rw [awake_sum]; rfl

theorem FnvLast.byte_inj {a b : Int} (wa : (Lit.int .u8 a).wf = true) (wb : (Lit.int .u8 b).wf = true) (h : UInt8.ofNat a.toNat = UInt8.ofNat b.toNat) : a = b := by
  simp [Lit.wf, IntKind.min, IntKind.max, IntKind.signed, IntKind.bits] at wa wb
  have := congrArg UInt8.toNat h
  simp at this
  omega

theorem FnvLast.join (s : ByteArray) (a : Int) : (s ++ strOfNums [a]).data.toList = s.data.toList ++ [UInt8.ofNat a.toNat] ∧ (s ++ strOfNums [a]).size = s.size + 1 := by
  constructor
  · simp [strOfNums]
  · simp [ByteArray.size_append, strOfNums_size]

theorem FnvLast : usherlaw06_FnvLast.Pure := by
  intro s a b hs wa wb
  refine ⟨s.size + 10, ?_⟩
  have ja := FnvLast.join s a
  have jb := FnvLast.join s b
  unfold usherlaw06_FnvLast.f
  rw [FnvLast.awake_is _ (by omega)]
  simp only [Option.bind_some, if_true]
  split
  · rfl
  · rw [if_pos (by rw [strOfNums_size]; simp; omega), FnvLast.sum_is (s ++ strOfNums [a]) (by rw [ja.2]; omega) _ (by rw [ja.2]; omega)]
    simp only [Option.bind_some]
    rw [if_pos (by rw [strOfNums_size]; simp; omega), FnvLast.sum_is (s ++ strOfNums [b]) (by rw [jb.2]; omega) _ (by rw [jb.2]; omega)]
    simp only [Option.bind_some, Option.some.injEq]
    rw [ja.1, jb.1]
    by_cases e : a = b
    · subst e; simp
    · have n : hashN 14695981039346656037 (s.data.toList ++ [UInt8.ofNat a.toNat]) ≠ hashN 14695981039346656037 (s.data.toList ++ [UInt8.ofNat b.toNat]) := fun x => e (FnvLast.byte_inj wa wb ((hashN_last (by decide) _).1 x))
      have e1 : (a == b) = false := by rw [beq_eq_false_iff_ne]; exact e
      have e2 : (((hashN 14695981039346656037 (s.data.toList ++ [UInt8.ofNat a.toNat]) : Nat) : Int) == ((hashN 14695981039346656037 (s.data.toList ++ [UInt8.ofNat b.toNat]) : Nat) : Int)) = false := by rw [beq_eq_false_iff_ne]; omega
      rw [e1, e2]; rfl

end Go.Proofs.Yteiejbkohnokaaa.Pure
