/- The walk of the law FnvPieces: it returns true for each text within the reach and each place; it leaves the world as it was, but for drawn orders. -/
import Derived.Test.YteiejbkohnokaaaFnvCalls
namespace Go.Proofs.Yteiejbkohnokaaa.WalkFnvPieces
open Go.RowKit Go.Proofs.YteiejbkohnokaaaW.PrintWords Go.Proofs.YteiejbkohnokaaaW.PrintLast Go.Proofs.YteiejbkohnokaaaW.PrintMore Go.Proofs.Yteiejbkohnokaaa.FnvMath Go.Proofs.Yteiejbkohnokaaa.FnvCalls

theorem pieces_eq (s : ByteArray) (p : Nat) : HI (SI (s.extract 0 p)) (s.extract p s.size) = SI s := by
  unfold HI
  rw [toNat_SI, Lib.extract_to_end, Lib.extract_data, ← hashN_append]
  unfold SI
  simp

theorem big (s : ByteArray) (a : Int) (w : World) (h : (65536 : Int) < (s.size : Int)) :
    Calls Try.prog 3 #[.string s, .int .i64 a] w fun e w' => e = .returned (.bool true) ∧ Drawn0 w w' := by
  have hb : decide ((65536 : Int) < (s.size : Int)) = true := decide_eq_true h
  go_enter Try.func3, Try.ntmps3
  go_wp2_with (go_at_call 14; refine (awake_any _).mono ?_; rintro e w' ⟨rfl, ⟨nd, rfl⟩⟩)
  go_ret
  exact ⟨rfl, Drawn0.step (Drawn0.refl _) _⟩

theorem below (s : ByteArray) (a : Int) (w : World) (h : ¬ (65536 : Int) < (s.size : Int)) (ha : a < 0) :
    Calls Try.prog 3 #[.string s, .int .i64 a] w fun e w' => e = .returned (.bool true) ∧ Drawn0 w w' := by
  have hb : decide ((65536 : Int) < (s.size : Int)) = false := decide_eq_false h
  have hb2 : decide (a < 0) = true := decide_eq_true ha
  go_enter Try.func3, Try.ntmps3
  go_wp2_with (go_at_call 14; refine (awake_any _).mono ?_; rintro e w' ⟨rfl, ⟨nd, rfl⟩⟩)
  go_ret
  exact ⟨rfl, Drawn0.step (Drawn0.refl _) _⟩

theorem above (s : ByteArray) (a : Int) (w : World) (h : ¬ (65536 : Int) < (s.size : Int)) (ha : ¬ a < 0) (hc : (s.size : Int) < a) :
    Calls Try.prog 3 #[.string s, .int .i64 a] w fun e w' => e = .returned (.bool true) ∧ Drawn0 w w' := by
  have hb : decide ((65536 : Int) < (s.size : Int)) = false := decide_eq_false h
  have hb2 : decide (a < 0) = false := decide_eq_false ha
  have hb3 : decide ((s.size : Int) < a) = true := decide_eq_true hc
  go_enter Try.func3, Try.ntmps3
  go_wp2_with (go_at_call 14; refine (awake_any _).mono ?_; rintro e w' ⟨rfl, ⟨nd, rfl⟩⟩)
  go_ret
  exact ⟨rfl, Drawn0.step (Drawn0.refl _) _⟩

set_option maxHeartbeats 1000000 in
theorem inside (s : ByteArray) (p : Nat) (w : World) (h : ¬ (65536 : Int) < (s.size : Int)) (hp : p ≤ s.size) :
    Calls Try.prog 3 #[.string s, .int .i64 (p : Int)] w fun e w' => e = .returned (.bool true) ∧ Drawn0 w w' := by
  have hb : decide ((65536 : Int) < (s.size : Int)) = false := decide_eq_false h
  have hb2 : decide ((p : Int) < 0) = false := decide_eq_false (by omega)
  have hb3 : decide ((s.size : Int) < (p : Int)) = false := decide_eq_false (by omega)
  have hb4 : decide (s.size < p) = false := decide_eq_false (by omega)
  have s1 : (s.extract 0 p).size ≤ 140737488351232 := by simp; omega
  have s2 : (s.extract p s.size).size ≤ 140737488351232 := by simp; omega
  have c1 := Aside0.mk (fun w => sum_any (s.extract 0 p) s1 w)
  have c2 := Aside0.mk (fun w => more_any (SI (s.extract 0 p)) (SI_range _).1 (SI_range _).2 (s.extract p s.size) s2 w)
  have c3 := Aside0.mk (fun w => sum_any s (by omega) w)
  have c4 := Aside0.mk (fun w => more_any (SI s) (SI_range _).1 (SI_range _).2 ⟨#[]⟩ (by decide) w)
  have e4 : HI (SI s) ⟨#[]⟩ = SI s := by
    unfold HI
    rw [toNat_SI]
    rfl
  rw [pieces_eq] at c2
  rw [e4] at c4
  generalize SI (s.extract 0 p) = x at c1 c2
  generalize SI s = y at c2 c3 c4
  clear e4 s1 s2 h
  go_enter Try.func3, Try.ntmps3
  go_wp2_with (go_at_call 14; refine (awake_any _).mono ?_; rintro e w' ⟨rfl, ⟨nd, rfl⟩⟩)
  go_quiet (first | (go_at_call 16; (with_reducible refine (c1.out _).mono ?_); rintro e w' ⟨rfl, ⟨nd, rfl⟩⟩; (first | exact ⟨rfl, _, World.drewN_drewN _ _ _⟩ | exact ⟨rfl, _, Eq.trans (World.drewN_drewN _ _ _) (congrArg (World.drewN _) (Nat.add_assoc _ _ _))⟩)) | (go_at_call 15; (with_reducible refine (c2.out _).mono ?_); rintro e w' ⟨rfl, ⟨nd, rfl⟩⟩; (first | exact ⟨rfl, _, World.drewN_drewN _ _ _⟩ | exact ⟨rfl, _, Eq.trans (World.drewN_drewN _ _ _) (congrArg (World.drewN _) (Nat.add_assoc _ _ _))⟩)) | (go_at_call 16; (with_reducible refine (c3.out _).mono ?_); rintro e w' ⟨rfl, ⟨nd, rfl⟩⟩; (first | exact ⟨rfl, _, World.drewN_drewN _ _ _⟩ | exact ⟨rfl, _, Eq.trans (World.drewN_drewN _ _ _) (congrArg (World.drewN _) (Nat.add_assoc _ _ _))⟩)) | (go_at_call 15; (with_reducible refine (c4.out _).mono ?_); rintro e w' ⟨rfl, ⟨nd, rfl⟩⟩; (first | exact ⟨rfl, _, World.drewN_drewN _ _ _⟩ | exact ⟨rfl, _, Eq.trans (World.drewN_drewN _ _ _) (congrArg (World.drewN _) (Nat.add_assoc _ _ _))⟩)))
  go_wp2
  go_ret
  exact ⟨rfl, by repeat (first | exact Drawn0.refl _ | apply Drawn0.step)⟩

theorem all (s : ByteArray) (a : Int) (w : World) : Calls Try.prog 3 #[.string s, .int .i64 a] w fun e w' => e = .returned (.bool true) ∧ Drawn0 w w' := by
  by_cases h : (65536 : Int) < (s.size : Int)
  · exact big s a w h
  by_cases ha : a < 0
  · exact below s a w h ha
  by_cases hc : (s.size : Int) < a
  · exact above s a w h ha hc
  obtain ⟨p, rfl⟩ := Int.eq_ofNat_of_zero_le (show 0 ≤ a by omega)
  exact inside s p w h (by omega)

theorem law (s : ByteArray) (a : Int) (w : World) (_w0 : s.size ≤ 140737488351232) (_w1 : (Lit.int .i64 a).wf = true) :
    Calls Try.prog 3 #[.string s, .int .i64 a] w fun e w' => e = .returned (.bool true) ∧ Below w.heap.size w w' :=
  (all s a w).mono fun _ _ ⟨he, hd⟩ => ⟨he, hd.below⟩
end Go.Proofs.Yteiejbkohnokaaa.WalkFnvPieces
