/- The functions fnv.More, fnv.Sum, fnv.Flow and their contracts for the laws FnvFlows and FnvSums: what a call comes to is what the plain function tells; no condition. The lines for More and Sum follow those that the kit's print wrote; the walk of Flow is my own. -/
import Derived.Test.YteiejbkohnokaaaPFnvFlowsx0
import Derived.Deep.RegionWith
namespace Go.Proofs.Yteiejbkohnokaaa.PFnvFlows
open Go.RowKit Go.Proofs.YteiejbkohnokaaaW.PrintWords Go.Proofs.YteiejbkohnokaaaW.PrintLast Go.Proofs.YteiejbkohnokaaaW.PrintMore
attribute [local go_sem] max2_int min2_int max_two min_two max_three min_three max_four min_four   -- for this text's walks alone
set_option linter.unusedVariables false
set_option linter.unusedSimpArgs false

/-! ### fnv_More: function 15 -/
def fnv_More.l0 : Nat → Int → ByteArray → Int → Int → Option (Int)
  | 0, _, _, _, _ => none
  | k + 1, x0, x1, x7, x8 => if x8 < x7 then (if 0 ≤ x8 then (if x8 < (x1.size : Int) then (fnv_More.l0 k (IntKind.u64.wrap ((Go.bits .xor .u64 x0 (IntKind.u64.wrap (bt x1 x8))) * 1099511628211)) x1 x7 (wrap64 (x8 + 1))) else (none)) else (none)) else (some x0)
def fnv_More.f (k : Nat) (a0 : Int) (a1 : ByteArray) : Option (Int) := fnv_More.l0 k a0 a1 (a1.size : Int) 0
theorem fnv_More.mono_l : ∀ k, (∀ y0 y1 y2 y3, LeO (fnv_More.l0 k y0 y1 y2 y3) (fnv_More.l0 (k + 1) y0 y1 y2 y3))
  | 0 => fun _ _ _ _ r h => by simp [fnv_More.l0] at h
  | k + 1 => by
    have ih0 := fnv_More.mono_l k
    · intro y0 y1 y2 y3
      unfold fnv_More.l0
      repeat' first
      | (with_reducible exact ih0 _ _ _ _)
      | (with_reducible exact LeO.refl _)
      | (with_reducible exact LeO.none _)
      | (with_reducible refine LeO.ite ?_ ?_)
      | (with_reducible refine LeO.bind ?_ (fun _ => ?_))
      | exact ih0 _ _ _ _
      | exact LeO.none _
      | refine LeO.ite ?_ ?_
      | refine LeO.bind ?_ (fun _ => ?_)
theorem fnv_More.mono : ∀ a0 a1 k, LeO (fnv_More.f k a0 a1) (fnv_More.f (k + 1) a0 a1) := by
  intro a0 a1 k
  have ih0 := fnv_More.mono_l k
  unfold fnv_More.f
  repeat' first
      | (with_reducible exact ih0 _ _ _ _)
      | (with_reducible exact LeO.refl _)
      | (with_reducible exact LeO.none _)
      | (with_reducible refine LeO.ite ?_ ?_)
      | (with_reducible refine LeO.bind ?_ (fun _ => ?_))
      | exact ih0 _ _ _ _
      | exact LeO.none _
      | refine LeO.ite ?_ ?_
      | refine LeO.bind ?_ (fun _ => ?_)
set_option maxHeartbeats 8000000 in
set_option maxRecDepth 100000 in
theorem fnv_More.calls (k : Nat) (a0 : Int) (a1 : ByteArray) (r : Int) (w : World) (h : fnv_More.f k a0 a1 = some r) :
    Calls Try.prog 15 #[.int .u64 a0, .string a1] w fun e w' => e = .returned (.int .u64 r) ∧ Drawn0 w w' := by
  have H : (fnv_More.l0 k a0 a1 (a1.size : Int) 0) = some r := h
  clear h
  have H' := Aside0.mk H
  clear H
  go_enter Try.func15, Try.ntmps15
  go_wp2
  go_loopg [0, 8] k (fun kq v0 v8 w' => ∃ (x0_1 : Int) (x8_1 : Int), v0 = .int .u64 x0_1 ∧ v8 = .int .i64 x8_1 ∧ Aside0 (fnv_More.l0 kq x0_1 a1 (a1.size : Int) x8_1 = some r) ∧ Aside0 (kq ≤ k) ∧ Drawn0 w w')
  case atStart => exact ⟨(a0), (0), (by first | rfl | (simp; done) | (simp [*]; done)), (by first | rfl | (simp; done) | (simp [*]; done)), H', ⟨Nat.le_refl _⟩, by repeat (first | exact Drawn0.refl _ | apply Drawn0.step)⟩
  case round =>
    clear H'
    try clear c1
    try clear p2
    obtain ⟨x0_1, x8_1, rfl, rfl, HA, HK1, ⟨m1, rfl⟩⟩ := hrel
    cases gk with
    | zero => exact absurd HA.out (by simp [fnv_More.l0])
    | succ k1 =>
      have H := HA.out
      clear HA
      simp only [fnv_More.l0] at H
      by_cases c3 : x8_1 < (a1.size : Int)
      · rw [if_pos c3] at H
        have c3b0 : decide (x8_1 < (a1.size : Int)) = true := decide_eq_true c3
        clear c3
        by_cases c4 : 0 ≤ x8_1
        · rw [if_pos c4] at H
          have c4b0 : decide (0 ≤ x8_1) = true := decide_eq_true c4
          clear c4
          by_cases c5 : x8_1 < (a1.size : Int)
          · rw [if_pos c5] at H
            have c5b0 : decide (x8_1 < (a1.size : Int)) = true := decide_eq_true c5
            clear c5
            have H' := Aside0.mk H
            clear H
            have p6 : 0 ≤ (x8_1 : Int) := of_decide_eq_true (by first | (with_reducible assumption) | assumption)
            have q6 : x8_1 < (a1.size : Int) := of_decide_eq_true (by first | (with_reducible assumption) | assumption)
            have hx6 := bt_at a1 x8_1
            replace p6 := eq_true p6
            replace q6 := eq_true q6
            go_wp2
            go_roundg k1
            case measure => have := HK1.out; omega
            case rel => exact ⟨(IntKind.u64.wrap ((Go.bits .xor .u64 x0_1 (IntKind.u64.wrap (bt a1 x8_1))) * 1099511628211)), (wrap64 (x8_1 + 1)), (by first | rfl | (simp; done) | (simp [*]; done)), (by first | rfl | (simp; done) | (simp [*]; done)), H', ⟨by have := HK1.out; omega⟩, by repeat (first | exact Drawn0.refl _ | apply Drawn0.step)⟩
          · rw [if_neg c5] at H
            exact absurd H (by simp)
        · rw [if_neg c4] at H
          exact absurd H (by simp)
      · rw [if_neg c3] at H
        have c3b0 : decide (x8_1 < (a1.size : Int)) = false := decide_eq_false c3
        clear c3
        obtain rfl := Option.some.inj H
        go_wp2
        go_ret
        exact ⟨by first | rfl | (simp; done) | (simp [*]; done), by repeat (first | exact Drawn0.refl _ | apply Drawn0.step)⟩

/-! ### fnv_Sum: function 16 -/
def fnv_Sum.f (k : Nat) (a0 : ByteArray) : Option (Int) := (fnv_More.f k 14695981039346656037 a0).bind fun t101 => (some t101)
theorem fnv_Sum.mono : ∀ a0 k, LeO (fnv_Sum.f k a0) (fnv_Sum.f (k + 1) a0) := by
  intro a0 k
  unfold fnv_Sum.f
  repeat' first
      | (with_reducible exact fnv_More.mono _ _ _)
      | (with_reducible exact LeO.refl _)
      | (with_reducible exact LeO.none _)
      | (with_reducible refine LeO.ite ?_ ?_)
      | (with_reducible refine LeO.bind ?_ (fun _ => ?_))
      | exact fnv_More.mono _ _ _
      | exact LeO.none _
      | refine LeO.ite ?_ ?_
      | refine LeO.bind ?_ (fun _ => ?_)
set_option maxHeartbeats 8000000 in
set_option maxRecDepth 100000 in
theorem fnv_Sum.calls (k : Nat) (a0 : ByteArray) (r : Int) (w : World) (h : fnv_Sum.f k a0 = some r) :
    Calls Try.prog 16 #[.string a0] w fun e w' => e = .returned (.int .u64 r) ∧ Drawn0 w w' := by
  have H : ((fnv_More.f k 14695981039346656037 a0).bind fun t101 => (some t101)) = some r := h
  clear h
  replace H := Option.bind_eq_some_iff.mp H
  obtain ⟨t101, A20, H⟩ := H
  replace H : (some t101) = some r := H
  have A2 := Aside0.mk A20
  clear A20
  obtain rfl := Option.some.inj H
  go_enter Try.func16, Try.ntmps16
  go_wp2_with (first | ((with_reducible refine gate_callee (f := 15) rfl ?_); refine goesL_ (some 4) rfl rfl Try.func15 (by kernel_rfl) rfl #[.int .u64 14695981039346656037, .string a0] rfl (by (try simp only [List.map_toArray, List.map_cons, List.map_nil]); first | done | rfl | (simp only [List.length_drop, List.length_take]; rfl)) ?_; (with_reducible refine (fnv_More.calls k 14695981039346656037 a0 t101 _ A2.out).mono ?_); rintro e w' ⟨rfl, ⟨nd, rfl⟩⟩; refine ⟨_, rfl, ?_⟩))
  go_ret
  exact ⟨by first | rfl | (simp; done) | (simp [*]; done), by repeat (first | exact Drawn0.refl _ | apply Drawn0.step)⟩

/-! ### usherlaw06_awake: function 14 -/
def usherlaw06_awake.f (k : Nat)  : Option (Bool) := (fnv_Sum.f k (⟨#[102, 111, 111, 98, 97, 114]⟩ : ByteArray)).bind fun t102 => (some (t102 == 9625390261332436968))
theorem usherlaw06_awake.mono : ∀ k, LeO (usherlaw06_awake.f k ) (usherlaw06_awake.f (k + 1) ) := by
  intro  k
  unfold usherlaw06_awake.f
  repeat' first
      | (with_reducible exact fnv_Sum.mono _ _)
      | (with_reducible exact LeO.refl _)
      | (with_reducible exact LeO.none _)
      | (with_reducible refine LeO.ite ?_ ?_)
      | (with_reducible refine LeO.bind ?_ (fun _ => ?_))
      | exact fnv_Sum.mono _ _
      | exact LeO.none _
      | refine LeO.ite ?_ ?_
      | refine LeO.bind ?_ (fun _ => ?_)
set_option maxHeartbeats 8000000 in
set_option maxRecDepth 100000 in
theorem usherlaw06_awake.calls (k : Nat)  (r : Bool) (w : World) (h : usherlaw06_awake.f k  = some r) :
    Calls Try.prog 14 #[] w fun e w' => e = .returned (.bool r) ∧ Drawn0 w w' := by
  have H : ((fnv_Sum.f k (⟨#[102, 111, 111, 98, 97, 114]⟩ : ByteArray)).bind fun t102 => (some (t102 == 9625390261332436968))) = some r := h
  clear h
  replace H := Option.bind_eq_some_iff.mp H
  obtain ⟨t102, A10, H⟩ := H
  replace H : (some (t102 == 9625390261332436968)) = some r := H
  have A1 := Aside0.mk A10
  clear A10
  obtain rfl := Option.some.inj H
  go_enter Try.func14, Try.ntmps14
  go_wp2_with (first | ((with_reducible refine gate_callee (f := 16) rfl ?_); refine goesL_ (some 1) rfl rfl Try.func16 (by kernel_rfl) rfl #[.string (⟨#[102, 111, 111, 98, 97, 114]⟩ : ByteArray)] rfl (by (try simp only [List.map_toArray, List.map_cons, List.map_nil]); first | done | rfl | (simp only [List.length_drop, List.length_take]; rfl)) ?_; (with_reducible refine (fnv_Sum.calls k (⟨#[102, 111, 111, 98, 97, 114]⟩ : ByteArray) t102 _ A1.out).mono ?_); rintro e w' ⟨rfl, ⟨nd, rfl⟩⟩; refine ⟨_, rfl, ?_⟩))
  go_ret
  exact ⟨by first | rfl | (simp; done) | (simp [*]; done), by repeat (first | exact Drawn0.refl _ | apply Drawn0.step)⟩

/-! ### fnv_Flow: function 19 -/
def fnv_Flow.f (k : Nat) (a0 : ByteArray) (a1 : ByteArray) : Option (Int) := (fnv_Sum.f k a0).bind fun t103 => ((fnv_More.f k t103 (strOfNums (([0] : List Int)))).bind fun t107 => ((fnv_More.f k t107 a1).bind fun t108 => (some t108)))
theorem fnv_Flow.mono : ∀ a0 a1 k, LeO (fnv_Flow.f k a0 a1) (fnv_Flow.f (k + 1) a0 a1) := by
  intro a0 a1 k
  unfold fnv_Flow.f
  repeat' first
      | (with_reducible exact fnv_More.mono _ _ _)
      | (with_reducible exact fnv_Sum.mono _ _)
      | (with_reducible exact LeO.refl _)
      | (with_reducible exact LeO.none _)
      | (with_reducible refine LeO.ite ?_ ?_)
      | (with_reducible refine LeO.bind ?_ (fun _ => ?_))
      | exact fnv_More.mono _ _ _
      | exact fnv_Sum.mono _ _
      | exact LeO.none _
      | refine LeO.ite ?_ ?_
      | refine LeO.bind ?_ (fun _ => ?_)

/-- A text of the one byte that a new block holds. -/
theorem text_one (c : Int) (wx : World) (g : Nat) (h : wx.cell? ⟨g, 0, none⟩ = some (.int .u8 c)) :
    (convert 27 9 (.slice (some ⟨g, 0, none⟩) 1 1)).run Try.prog wx = .ok (.string (strOfNums [c])) wx := by
  refine string_of_reads (e := 5) (c := 1) (by kernel_rfl) (by kernel_rfl) (by kernel_rfl) ⟨rfl, by decide, fun _ => ⟨_, rfl, fun j hj => ?_⟩⟩
  obtain rfl : j = 0 := by omega
  exact h
theorem cell_a (w : World) (n : Nat) (c : Value) (E : TypeId) : ((w.drewN n).alloc (.cells #[c] E)).cell? ⟨w.heap.size, 0, none⟩ = some c := by
  rw [World.cell?_alloc_at _ _ _ _ (by simp)]; rfl
set_option maxHeartbeats 1000000 in
theorem fnv_Flow.calls (k : Nat) (a0 : ByteArray) (a1 : ByteArray) (r : Int) (w : World) (h : fnv_Flow.f k a0 a1 = some r) :
    Calls Try.prog 19 #[.string a0, .string a1] w fun e w' => e = .returned (.int .u64 r) ∧ Below w.heap.size w w' := by
  unfold fnv_Flow.f at h
  obtain ⟨x, hx, h⟩ := Option.bind_eq_some_iff.mp h
  obtain ⟨y, hy, h⟩ := Option.bind_eq_some_iff.mp h
  obtain ⟨z, hz, h⟩ := Option.bind_eq_some_iff.mp h
  obtain rfl := Option.some.inj h
  have c1 := Aside0.mk (fun w => fnv_Sum.calls k a0 x w hx)
  have c2 := Aside0.mk (fun w => fnv_More.calls k x (strOfNums [0]) y w hy)
  have c3 := Aside0.mk (fun w => fnv_More.calls k y a1 z w hz)
  clear h hx hy hz
  go_enter Try.func19, Try.ntmps19
  go_wp2
  have t1 := text_one 0
  have f1 := cell_a w
  go_region_with (first | (go_at_call 16; (with_reducible refine (c1.out _).mono ?_); rintro e w' ⟨rfl, ⟨nd, rfl⟩⟩) | (go_at_call 15; (with_reducible refine (c2.out _).mono ?_); rintro e w' ⟨rfl, ⟨nd, rfl⟩⟩) | (go_at_call 15; (with_reducible refine (c3.out _).mono ?_); rintro e w' ⟨rfl, ⟨nd, rfl⟩⟩))
  all_goals go_wp2
  all_goals go_ret
  all_goals exact ⟨rfl, by repeat (first | exact Below.refl _ _ | apply below_alloc | apply pw_below_drewN | apply below_drew)⟩

end Go.Proofs.Yteiejbkohnokaaa.PFnvFlows
