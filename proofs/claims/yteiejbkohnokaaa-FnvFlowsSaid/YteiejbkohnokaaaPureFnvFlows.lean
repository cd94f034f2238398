/- The hash of a flow goes on from that of its schema's flow without a key, and other last bytes of keys lead to other hashes: the function of the law FnvFlows answers true at all texts within the reach and any two bytes. -/
import Derived.Test.YteiejbkohnokaaaOwnFlowsB
import Derived.Test.YteiejbkohnokaaaFnvMath
namespace Go.Proofs.Yteiejbkohnokaaa.Pure
open Go.RowKit Go.Proofs.Yteiejbkohnokaaa.PFnvFlows Go.Proofs.YteiejbkohnokaaaW.PrintWords Go.Proofs.YteiejbkohnokaaaW.PrintLast Go.Proofs.Yteiejbkohnokaaa.FnvMath

theorem FnvFlows.more_is (s : ByteArray) (hs : s.size ≤ 9223372036854775807) (k h : Nat) (hk : s.size < k) (hh : h < 18446744073709551616) : fnv_More.f k (h : Int) s = some ((hashN h s.data.toList : Nat) : Int) := by
  have e := loop_gen fnv_More.l0 (fun _ _ _ _ _ => rfl) s (by omega) s.size k 0 h (by omega) (by omega) hk hh
  rw [List.drop_zero] at e
  exact e

theorem FnvFlows.sum_is (s : ByteArray) (hs : s.size ≤ 9223372036854775807) (k : Nat) (hk : s.size < k) : fnv_Sum.f k s = some ((hashN 14695981039346656037 s.data.toList : Nat) : Int) := by
  unfold fnv_Sum.f
  rw [show (14695981039346656037 : Int) = ((14695981039346656037 : Nat) : Int) from rfl, FnvFlows.more_is _ hs k _ hk (by decide)]
  rfl

theorem FnvFlows.awake_is (k : Nat) (hk : 7 ≤ k) : usherlaw06_awake.f k = some true := by
  unfold usherlaw06_awake.f
  rw [FnvFlows.sum_is _ (by decide) k (by show 6 < k; omega)]
  show some (((hashN 14695981039346656037 [102, 111, 111, 98, 97, 114] : Nat) : Int) == 9625390261332436968) = some true
  rw [awake_sum]; rfl

theorem FnvFlows.zero_one : (strOfNums [0]).data.toList = [0] := by rw [strOfNums_data]; rfl
theorem FnvFlows.hash_lt (l : List UInt8) : hashN 14695981039346656037 l < 18446744073709551616 := hashN_lt l _ (by decide)

theorem FnvFlows.flow_is (s t : ByteArray) (hs : s.size ≤ 9223372036854775807) (ht : t.size ≤ 9223372036854775807) (k : Nat) (hk : s.size < k) (hk' : t.size < k) (hk1 : 1 < k) :
    fnv_Flow.f k s t = some ((hashN (hashN 14695981039346656037 (s.data.toList ++ [0])) t.data.toList : Nat) : Int) := by
  unfold fnv_Flow.f
  rw [FnvFlows.sum_is s hs k hk]
  simp only [Option.bind_some]
  rw [FnvFlows.more_is (strOfNums [0]) (by rw [strOfNums_size]; decide) k _ (by rw [strOfNums_size]; exact hk1) (FnvFlows.hash_lt _)]
  simp only [Option.bind_some]
  rw [FnvFlows.zero_one, ← hashN_append, FnvFlows.more_is t ht k _ hk' (FnvFlows.hash_lt _)]
  rfl

theorem FnvFlows.byte_inj {a b : Int} (wa : (Lit.int .u8 a).wf = true) (wb : (Lit.int .u8 b).wf = true) (h : UInt8.ofNat a.toNat = UInt8.ofNat b.toNat) : a = b := by
  simp [Lit.wf, IntKind.min, IntKind.max, IntKind.signed, IntKind.bits] at wa wb
  have := congrArg UInt8.toNat h
  simp at this
  omega

theorem FnvFlows.join (s : ByteArray) (a : Int) : (s ++ strOfNums [a]).data.toList = s.data.toList ++ [UInt8.ofNat a.toNat] ∧ (s ++ strOfNums [a]).size = s.size + 1 := by
  constructor
  · simp [strOfNums]
  · simp [ByteArray.size_append, strOfNums_size]

theorem FnvFlows.last_is (s t : ByteArray) (a b : Int) (hs : s.size ≤ 140737488351232) (ht : t.size ≤ 140737488351232) (wa : (Lit.int .u8 a).wf = true) (wb : (Lit.int .u8 b).wf = true) (k : Nat) (hk : s.size + t.size + 10 < k) :
    usherlaw06_FnvFlows.j0 (k + 1) s t a b false = some true := by
  have ja := FnvFlows.join t a
  have jb := FnvFlows.join t b
  simp only [usherlaw06_FnvFlows.j0]
  rw [if_neg (by decide), FnvFlows.flow_is s ⟨#[]⟩ (by omega) (by decide) k (by omega) (by show 0 < k; omega) (by omega)]
  simp only [Option.bind_some]
  rw [if_pos (by rw [strOfNums_size]; simp; omega), FnvFlows.flow_is s (t ++ strOfNums [a]) (by omega) (by rw [ja.2]; omega) k (by omega) (by rw [ja.2]; omega) (by omega)]
  simp only [Option.bind_some]
  rw [if_pos (by rw [strOfNums_size]; simp; omega), FnvFlows.flow_is s (t ++ strOfNums [b]) (by omega) (by rw [jb.2]; omega) k (by omega) (by rw [jb.2]; omega) (by omega)]
  simp only [Option.bind_some]
  rw [FnvFlows.flow_is s t (by omega) (by omega) k (by omega) (by omega) (by omega), hashN_nil, FnvFlows.more_is t (by omega) k _ (by omega) (FnvFlows.hash_lt _)]
  simp only [Option.bind_some]
  rw [if_pos trivial, ja.1, jb.1]
  congr 1
  have hh := FnvFlows.hash_lt (s.data.toList ++ [0])
  generalize hashN 14695981039346656037 (s.data.toList ++ [0]) = h at hh
  by_cases e : a = b
  · subst e; simp
  · have n : hashN h (t.data.toList ++ [UInt8.ofNat a.toNat]) ≠ hashN h (t.data.toList ++ [UInt8.ofNat b.toNat]) := fun x => e (FnvFlows.byte_inj wa wb ((hashN_last hh _).1 x))
    have e1 : (a == b) = false := by rw [beq_eq_false_iff_ne]; exact e
    have e2 : (((hashN h (t.data.toList ++ [UInt8.ofNat a.toNat]) : Nat) : Int) == ((hashN h (t.data.toList ++ [UInt8.ofNat b.toNat]) : Nat) : Int)) = false := by rw [beq_eq_false_iff_ne]; omega
    rw [e1, e2]; rfl

theorem FnvFlows : usherlaw06_FnvFlows.Pure := by
  intro s t a b hs ht wa wb
  refine ⟨s.size + t.size + 20 + 1, ?_⟩
  unfold usherlaw06_FnvFlows.f
  rw [FnvFlows.awake_is _ (by omega)]
  simp only [Option.bind_some, if_true]
  have yes : usherlaw06_FnvFlows.j0 (s.size + t.size + 20 + 1) s t a b true = some true := by simp only [usherlaw06_FnvFlows.j0]; rw [if_pos trivial]
  by_cases h1 : (s.size : Int) > 65536
  · rw [if_pos h1]; exact yes
  · rw [if_neg h1]
    by_cases h2 : (t.size : Int) > 65536
    · rw [decide_eq_true h2]; exact yes
    · rw [decide_eq_false h2]; exact FnvFlows.last_is s t a b hs ht wa wb _ (by omega)

end Go.Proofs.Yteiejbkohnokaaa.Pure
