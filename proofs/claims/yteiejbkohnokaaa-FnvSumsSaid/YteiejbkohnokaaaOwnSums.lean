/- usherref06.More and usherref06.Sum as plain functions, with their calls: printed lines. -/
import Derived.Test.YteiejbkohnokaaaFlowCalls
import Derived.Test.YteiejbkohnokaaaPFnvSumsx0
import Derived.Laws.BitsAllLaws
import Derived.Lib.FrozenHead2
namespace Go.Proofs.Yteiejbkohnokaaa.OwnSums
open Go.RowKit Go.Proofs.YteiejbkohnokaaaW.PrintWords Go.Proofs.YteiejbkohnokaaaW.PrintLast Go.Proofs.YteiejbkohnokaaaW.PrintMore
attribute [local go_sem] max2_int min2_int max_two min_two max_three min_three max_four min_four   -- for this text's walks alone
set_option linter.unusedVariables false
set_option linter.unusedSimpArgs false

/-! ### usherref06_More: function 18 -/
def usherref06_More.l0 : Nat → Int → ByteArray → Int → Option (Int)
  | 0, _, _, _ => none
  | k + 1, x0, x1, x5 => if x5 < (x1.size : Int) then (if 0 ≤ x5 then (usherref06_More.l0 k (IntKind.u64.wrap ((IntKind.u64.wrap ((IntKind.u64.wrap ((Go.bits .or .u64 (Go.bits .andNot .u64 x0 255) (Go.bits .xor .u64 (Int.tmod x0 256) (IntKind.u64.wrap (bt x1 x5)))) * 1099511627776)) + (IntKind.u64.wrap ((Go.bits .or .u64 (Go.bits .andNot .u64 x0 255) (Go.bits .xor .u64 (Int.tmod x0 256) (IntKind.u64.wrap (bt x1 x5)))) * 256)))) + (IntKind.u64.wrap (179 * (Go.bits .or .u64 (Go.bits .andNot .u64 x0 255) (Go.bits .xor .u64 (Int.tmod x0 256) (IntKind.u64.wrap (bt x1 x5)))))))) x1 (wrap64 (x5 + 1))) else (none)) else (some x0)
def usherref06_More.f (k : Nat) (a0 : Int) (a1 : ByteArray) : Option (Int) := usherref06_More.l0 k a0 a1 0
theorem usherref06_More.mono_l : ∀ k, (∀ y0 y1 y2, LeO (usherref06_More.l0 k y0 y1 y2) (usherref06_More.l0 (k + 1) y0 y1 y2))
  | 0 => fun _ _ _ r h => by simp [usherref06_More.l0] at h
  | k + 1 => by
    have ih0 := usherref06_More.mono_l k
    · intro y0 y1 y2
      unfold usherref06_More.l0
      repeat' first
      | (with_reducible exact ih0 _ _ _)
      | (with_reducible exact LeO.refl _)
      | (with_reducible exact LeO.none _)
      | (with_reducible refine LeO.ite ?_ ?_)
      | (with_reducible refine LeO.bind ?_ (fun _ => ?_))
      | exact ih0 _ _ _
      | exact LeO.none _
      | refine LeO.ite ?_ ?_
      | refine LeO.bind ?_ (fun _ => ?_)
theorem usherref06_More.mono : ∀ a0 a1 k, LeO (usherref06_More.f k a0 a1) (usherref06_More.f (k + 1) a0 a1) := by
  intro a0 a1 k
  have ih0 := usherref06_More.mono_l k
  unfold usherref06_More.f
  repeat' first
      | (with_reducible exact ih0 _ _ _)
      | (with_reducible exact LeO.refl _)
      | (with_reducible exact LeO.none _)
      | (with_reducible refine LeO.ite ?_ ?_)
      | (with_reducible refine LeO.bind ?_ (fun _ => ?_))
      | exact ih0 _ _ _
      | exact LeO.none _
      | refine LeO.ite ?_ ?_
      | refine LeO.bind ?_ (fun _ => ?_)
set_option maxHeartbeats 8000000 in
set_option maxRecDepth 100000 in
theorem usherref06_More.calls (k : Nat) (a0 : Int) (a1 : ByteArray) (r : Int) (w : World) (h : usherref06_More.f k a0 a1 = some r) :
    Calls Try.prog 18 #[.int .u64 a0, .string a1] w fun e w' => e = .returned (.int .u64 r) ∧ Drawn0 w w' := by
  have H : (usherref06_More.l0 k a0 a1 0) = some r := h
  clear h
  have H' := Aside0.mk H
  clear H
  go_enter Try.func18, Try.ntmps18
  go_wp2
  go_loopg [0, 5] k (fun kq v0 v5 w' => ∃ (x0_1 : Int) (x5_1 : Int), v0 = .int .u64 x0_1 ∧ v5 = .int .i64 x5_1 ∧ Aside0 (usherref06_More.l0 kq x0_1 a1 x5_1 = some r) ∧ Aside0 (kq ≤ k) ∧ Drawn0 w w')
  case atStart => exact ⟨(a0), (0), (by first | rfl | (simp; done) | (simp [*]; done)), (by first | rfl | (simp; done) | (simp [*]; done)), H', ⟨Nat.le_refl _⟩, by repeat (first | exact Drawn0.refl _ | apply Drawn0.step)⟩
  case round =>
    clear H'
    try clear c1
    try clear p2
    obtain ⟨x0_1, x5_1, rfl, rfl, HA, HK1, ⟨m1, rfl⟩⟩ := hrel
    cases gk with
    | zero => exact absurd HA.out (by simp [usherref06_More.l0])
    | succ k1 =>
      have H := HA.out
      clear HA
      simp only [usherref06_More.l0] at H
      by_cases c3 : x5_1 < (a1.size : Int)
      · rw [if_pos c3] at H
        have c3b0 : decide (x5_1 < (a1.size : Int)) = true := decide_eq_true c3
        clear c3
        by_cases c4 : 0 ≤ x5_1
        · rw [if_pos c4] at H
          have c4b0 : decide (0 ≤ x5_1) = true := decide_eq_true c4
          clear c4
          have H' := Aside0.mk H
          clear H
          have p5 : 0 ≤ (x5_1 : Int) := of_decide_eq_true (by first | (with_reducible assumption) | assumption)
          have q5 : x5_1 < (a1.size : Int) := of_decide_eq_true (by first | (with_reducible assumption) | assumption)
          have hx5 := bt_at a1 x5_1
          replace p5 := eq_true p5
          replace q5 := eq_true q5
          go_wp2
          go_roundg k1
          case measure => have := HK1.out; omega
          case rel => exact ⟨(IntKind.u64.wrap ((IntKind.u64.wrap ((IntKind.u64.wrap ((Go.bits .or .u64 (Go.bits .andNot .u64 x0_1 255) (Go.bits .xor .u64 (Int.tmod x0_1 256) (IntKind.u64.wrap (bt a1 x5_1)))) * 1099511627776)) + (IntKind.u64.wrap ((Go.bits .or .u64 (Go.bits .andNot .u64 x0_1 255) (Go.bits .xor .u64 (Int.tmod x0_1 256) (IntKind.u64.wrap (bt a1 x5_1)))) * 256)))) + (IntKind.u64.wrap (179 * (Go.bits .or .u64 (Go.bits .andNot .u64 x0_1 255) (Go.bits .xor .u64 (Int.tmod x0_1 256) (IntKind.u64.wrap (bt a1 x5_1)))))))), (wrap64 (x5_1 + 1)), (by first | rfl | (simp; done) | (simp [*]; done)), (by first | rfl | (simp; done) | (simp [*]; done)), H', ⟨by have := HK1.out; omega⟩, by repeat (first | exact Drawn0.refl _ | apply Drawn0.step)⟩
        · rw [if_neg c4] at H
          exact absurd H (by simp)
      · rw [if_neg c3] at H
        have c3b0 : decide (x5_1 < (a1.size : Int)) = false := decide_eq_false c3
        clear c3
        obtain rfl := Option.some.inj H
        go_wp2
        go_ret
        exact ⟨by first | rfl | (simp; done) | (simp [*]; done), by repeat (first | exact Drawn0.refl _ | apply Drawn0.step)⟩

/-! ### usherref06_Sum: function 17 -/
def usherref06_Sum.f (k : Nat) (a0 : ByteArray) : Option (Int) := (usherref06_More.f k 14695981039346656037 a0).bind fun t103 => (some t103)
theorem usherref06_Sum.mono : ∀ a0 k, LeO (usherref06_Sum.f k a0) (usherref06_Sum.f (k + 1) a0) := by
  intro a0 k
  unfold usherref06_Sum.f
  repeat' first
      | (with_reducible exact usherref06_More.mono _ _ _)
      | (with_reducible exact LeO.refl _)
      | (with_reducible exact LeO.none _)
      | (with_reducible refine LeO.ite ?_ ?_)
      | (with_reducible refine LeO.bind ?_ (fun _ => ?_))
      | exact usherref06_More.mono _ _ _
      | exact LeO.none _
      | refine LeO.ite ?_ ?_
      | refine LeO.bind ?_ (fun _ => ?_)
set_option maxHeartbeats 8000000 in
set_option maxRecDepth 100000 in
theorem usherref06_Sum.calls (k : Nat) (a0 : ByteArray) (r : Int) (w : World) (h : usherref06_Sum.f k a0 = some r) :
    Calls Try.prog 17 #[.string a0] w fun e w' => e = .returned (.int .u64 r) ∧ Drawn0 w w' := by
  have H : ((usherref06_More.f k 14695981039346656037 a0).bind fun t103 => (some t103)) = some r := h
  clear h
  replace H := Option.bind_eq_some_iff.mp H
  obtain ⟨t103, A20, H⟩ := H
  replace H : (some t103) = some r := H
  have A2 := Aside0.mk A20
  clear A20
  obtain rfl := Option.some.inj H
  go_enter Try.func17, Try.ntmps17
  go_wp2_with (first | ((with_reducible refine gate_callee (f := 18) rfl ?_); refine goesL_ (some 4) rfl rfl Try.func18 (by kernel_rfl) rfl #[.int .u64 14695981039346656037, .string a0] rfl (by (try simp only [List.map_toArray, List.map_cons, List.map_nil]); first | done | rfl | (simp only [List.length_drop, List.length_take]; rfl)) ?_; (with_reducible refine (usherref06_More.calls k 14695981039346656037 a0 t103 _ A2.out).mono ?_); rintro e w' ⟨rfl, ⟨nd, rfl⟩⟩; refine ⟨_, rfl, ?_⟩))
  go_ret
  exact ⟨by first | rfl | (simp; done) | (simp [*]; done), by repeat (first | exact Drawn0.refl _ | apply Drawn0.step)⟩


end Go.Proofs.Yteiejbkohnokaaa.OwnSums
