/- The contract of the program's function fnv.Flow, in the words of the plain hash; each text of at most 2^47 - 4096 bytes; below its own memory the world stays as it was. -/
import Derived.Test.YteiejbkohnokaaaFnvCalls
import Derived.Deep.RegionWith
namespace Go.Proofs.Yteiejbkohnokaaa.FlowCalls
open Go.RowKit Go.Proofs.YteiejbkohnokaaaW.PrintWords Go.Proofs.YteiejbkohnokaaaW.PrintLast Go.Proofs.YteiejbkohnokaaaW.PrintMore Go.Proofs.Yteiejbkohnokaaa.FnvMath Go.Proofs.Yteiejbkohnokaaa.FnvCalls

/-- A text of the one byte that a new block holds. -/
theorem text_one (c : Int) (wx : World) (g : Nat) (h : wx.cell? ⟨g, 0, none⟩ = some (.int .u8 c)) :
    (convert 27 9 (.slice (some ⟨g, 0, none⟩) 1 1)).run Try.prog wx = .ok (.string (strOfNums [c])) wx := by
  refine string_of_reads (e := 5) (c := 1) (by kernel_rfl) (by kernel_rfl) (by kernel_rfl) ⟨rfl, by decide, fun _ => ⟨_, rfl, fun j hj => ?_⟩⟩
  obtain rfl : j = 0 := by omega
  exact h
theorem cell_a (w : World) (n : Nat) (c : Value) (E : TypeId) : ((w.drewN n).alloc (.cells #[c] E)).cell? ⟨w.heap.size, 0, none⟩ = some c := by
  rw [World.cell?_alloc_at _ _ _ _ (by simp)]; rfl

theorem zero_one : (strOfNums [0]).data.toList = [0] := by rw [strOfNums_data]; rfl
/-- The hash of a flow. -/
def FI (s t : ByteArray) : Int := HI (HI (SI s) (strOfNums [0])) t
theorem FI_range (s t : ByteArray) : 0 ≤ FI s t ∧ FI s t < 18446744073709551616 := HI_range (HI_range (SI_range s).2 _).2 _
theorem FI_nat (s t : ByteArray) : FI s t = ((hashN 14695981039346656037 (s.data.toList ++ (0 :: t.data.toList)) : Nat) : Int) := by
  rw [hashN_append, hashN_cons]
  show ((hashN (HI (SI s) (strOfNums [0])).toNat t.data.toList : Nat) : Int) = _
  rw [toNat_HI, toNat_SI, zero_one, hashN_cons, hashN_nil]

set_option maxHeartbeats 1000000 in
theorem flow_any (s t : ByteArray) (hs : s.size ≤ 140737488351232) (ht : t.size ≤ 140737488351232) (w : World) :
    Calls Try.prog 19 #[.string s, .string t] w fun e w' => e = .returned (.int .u64 (FI s t)) ∧ Below w.heap.size w w' := by
  have c1 := Aside0.mk (fun w => sum_any s hs w)
  have c2 := Aside0.mk (fun w => more_any (SI s) (SI_range _).1 (SI_range _).2 (strOfNums [0]) (by rw [strOfNums_size]; decide) w)
  have c3 := Aside0.mk (fun w => more_any (HI (SI s) (strOfNums [0])) (HI_range (SI_range _).2 _).1 (HI_range (SI_range _).2 _).2 t ht w)
  unfold FI
  generalize HI (HI (SI s) (strOfNums [0])) t = z at c3 ⊢
  generalize HI (SI s) (strOfNums [0]) = y at c2 c3
  generalize SI s = x at c1 c2
  clear hs ht
  go_enter Try.func19, Try.ntmps19
  go_wp2
  have t1 := text_one 0
  have f1 := cell_a w
  go_region_with (first | (go_at_call 16; (with_reducible refine (c1.out _).mono ?_); rintro e w' ⟨rfl, ⟨nd, rfl⟩⟩) | (go_at_call 15; (with_reducible refine (c2.out _).mono ?_); rintro e w' ⟨rfl, ⟨nd, rfl⟩⟩) | (go_at_call 15; (with_reducible refine (c3.out _).mono ?_); rintro e w' ⟨rfl, ⟨nd, rfl⟩⟩))
  all_goals go_wp2
  all_goals go_ret
  all_goals exact ⟨rfl, by repeat (first | exact Below.refl _ _ | apply below_alloc | apply pw_below_drewN | apply below_drew)⟩
end Go.Proofs.Yteiejbkohnokaaa.FlowCalls
