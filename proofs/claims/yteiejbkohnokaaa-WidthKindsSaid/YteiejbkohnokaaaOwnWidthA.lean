/- The program's functions width.up and width.Seats, the law's awake, and their contracts: what a call comes to is what the plain function tells; the lines follow those that the kit's print wrote; no condition. -/
import Derived.Test.YteiejbkohnokaaaPWidthAllx0
namespace Go.Proofs.Yteiejbkohnokaaa.PWidthAll
open Go.RowKit Go.Proofs.YteiejbkohnokaaaW.PrintWords Go.Proofs.YteiejbkohnokaaaW.PrintLast Go.Proofs.YteiejbkohnokaaaW.PrintMore
attribute [local go_sem] max2_int min2_int max_two min_two max_three min_three max_four min_four   -- for this text's walks alone
set_option linter.unusedVariables false
set_option linter.unusedSimpArgs false

/-! ### width_up: function 32 -/
def width_up.f (a0 : Int) (a1 : Int) : Option (Int) := if a1 = 0 then (none) else (if (Int.tmod a0 a1) > 0 then (some (wrap64 ((wrap64 (Int.tdiv a0 a1)) + 1))) else (some (wrap64 (Int.tdiv a0 a1))))
set_option maxHeartbeats 8000000 in
set_option maxRecDepth 100000 in
theorem width_up.calls (a0 : Int) (a1 : Int) (r : Int) (w : World) (h : width_up.f a0 a1 = some r) :
    Calls Try.prog 32 #[.int .i64 a0, .int .i64 a1] w fun e w' => e = .returned (.int .i64 r) ∧ Drawn0 w w' := by
  have H : (if a1 = 0 then (none) else (if (Int.tmod a0 a1) > 0 then (some (wrap64 ((wrap64 (Int.tdiv a0 a1)) + 1))) else (some (wrap64 (Int.tdiv a0 a1))))) = some r := h
  clear h
  by_cases c3 : a1 = 0
  · rw [if_pos c3] at H
    exact absurd H (by simp)
  · rw [if_neg c3] at H
    have c3b0 : (a1 == 0) = false := beq_eq_false_iff_ne.mpr c3
    have c3b1 : (a1 != 0) = true := bne_iff_ne.mpr c3
    by_cases c4 : (Int.tmod a0 a1) > 0
    · rw [if_pos c4] at H
      have c4b0 : decide (0 < (Int.tmod a0 a1)) = true := decide_eq_true c4
      clear c4
      obtain rfl := Option.some.inj H
      go_enter Try.func32, Try.ntmps32
      go_wp2
      go_ret
      exact ⟨by first | rfl | (simp; done) | (simp [*]; done), by repeat (first | exact Drawn0.refl _ | apply Drawn0.step)⟩
    · rw [if_neg c4] at H
      have c4b0 : decide (0 < (Int.tmod a0 a1)) = false := decide_eq_false c4
      clear c4
      obtain rfl := Option.some.inj H
      go_enter Try.func32, Try.ntmps32
      go_wp2
      go_ret
      exact ⟨by first | rfl | (simp; done) | (simp [*]; done), by repeat (first | exact Drawn0.refl _ | apply Drawn0.step)⟩

/-! ### width_Seats: function 28 -/
def width_Seats.j0 : Nat → Int → Int → Int → Int → ByteArray → List ByteArray → ByteArray → ByteArray → ByteArray → Int → Option (Int)
  | 0, _, _, _, _, _, _, _, _, _, _ => none
  | k + 1, x0, x1, x7, x8, x102000, x102001, x102002, x102003, x102004, x102005 => (width_up.f x7 x0).bind fun t102 => (if x102004.toList = ([] : List UInt8) then (some (mn (wrap64 (x8 + (mn (mx t102 1) x1))) x1)) else ((width_up.f t102 2).bind fun t103 => (some (mn (wrap64 (x8 + (mn (mx t103 1) x1))) x1))))
def width_Seats.f (k : Nat) (a0 : Int) (a1 : Int) (a2_0 : ByteArray) (l2_1 : List ByteArray) (a2_2 : ByteArray) (a2_3 : ByteArray) (a2_4 : ByteArray) (a2_5 : Int) : Option (Int) := if a2_2.toList = ([100, 101, 108, 101, 116, 101, 99, 111, 108, 108, 101, 99, 116, 105, 111, 110] : List UInt8) then (width_Seats.j0 k (mx a0 1) (mn (mx a1 1) 16) (mx a2_5 0) (0 + 1) a2_0 l2_1 a2_2 a2_3 a2_4 a2_5) else (if a2_2.toList = ([108, 105, 115, 116] : List UInt8) then (width_Seats.j0 k (mx a0 1) (mn (mx a1 1) 16) (mx a2_5 0) 0 a2_0 l2_1 a2_2 a2_3 a2_4 a2_5) else (if a2_2.toList = ([99, 114, 101, 97, 116, 101] : List UInt8) then (if (mx a2_5 0) > (mx a0 1) then (some (mn ((0 + 1) + 1) (mn (mx a1 1) 16))) else (some (mn (0 + 1) (mn (mx a1 1) 16)))) else (if a2_2.toList = ([117, 112, 100, 97, 116, 101] : List UInt8) then (if (mx a2_5 0) > (mx a0 1) then (some (mn ((0 + 1) + 1) (mn (mx a1 1) 16))) else (some (mn (0 + 1) (mn (mx a1 1) 16)))) else (if a2_2.toList = ([112, 97, 116, 99, 104] : List UInt8) then (if (mx a2_5 0) > (mx a0 1) then (some (mn ((0 + 1) + 1) (mn (mx a1 1) 16))) else (some (mn (0 + 1) (mn (mx a1 1) 16)))) else (if a2_2.toList = ([100, 101, 108, 101, 116, 101] : List UInt8) then (if (mx a2_5 0) > (mx a0 1) then (some (mn ((0 + 1) + 1) (mn (mx a1 1) 16))) else (some (mn (0 + 1) (mn (mx a1 1) 16)))) else (some (mn (0 + 1) (mn (mx a1 1) 16))))))))
theorem width_Seats.mono_l : ∀ k, (∀ y0 y1 y2 y3 y4 y5 y6 y7 y8 y9, LeO (width_Seats.j0 k y0 y1 y2 y3 y4 y5 y6 y7 y8 y9) (width_Seats.j0 (k + 1) y0 y1 y2 y3 y4 y5 y6 y7 y8 y9))
  | 0 => fun _ _ _ _ _ _ _ _ _ _ r h => by simp [width_Seats.j0] at h
  | k + 1 => by
    have ih0 := width_Seats.mono_l k
    · intro y0 y1 y2 y3 y4 y5 y6 y7 y8 y9
      unfold width_Seats.j0
      repeat' first
      | (with_reducible exact ih0 _ _ _ _ _ _ _ _ _ _)
      | (with_reducible exact LeO.refl _)
      | (with_reducible exact LeO.none _)
      | (with_reducible refine LeO.ite ?_ ?_)
      | (with_reducible refine LeO.bind ?_ (fun _ => ?_))
      | exact ih0 _ _ _ _ _ _ _ _ _ _
      | exact LeO.none _
      | refine LeO.ite ?_ ?_
      | refine LeO.bind ?_ (fun _ => ?_)
theorem width_Seats.mono : ∀ a0 a1 a2 a3 a4 a5 a6 a7 k, LeO (width_Seats.f k a0 a1 a2 a3 a4 a5 a6 a7) (width_Seats.f (k + 1) a0 a1 a2 a3 a4 a5 a6 a7) := by
  intro a0 a1 a2 a3 a4 a5 a6 a7 k
  have ih0 := width_Seats.mono_l k
  unfold width_Seats.f
  repeat' first
      | (with_reducible exact ih0 _ _ _ _ _ _ _ _ _ _)
      | (with_reducible exact LeO.refl _)
      | (with_reducible exact LeO.none _)
      | (with_reducible refine LeO.ite ?_ ?_)
      | (with_reducible refine LeO.bind ?_ (fun _ => ?_))
      | exact ih0 _ _ _ _ _ _ _ _ _ _
      | exact LeO.none _
      | refine LeO.ite ?_ ?_
      | refine LeO.bind ?_ (fun _ => ?_)
set_option maxHeartbeats 8000000 in
set_option maxRecDepth 100000 in
theorem width_Seats.calls (k : Nat) (a0 : Int) (a1 : Int) (a2_0 : ByteArray) (A2_1 : Option Addr) (c2_1 : Nat) (l2_1 : List ByteArray) (a2_2 : ByteArray) (a2_3 : ByteArray) (a2_4 : ByteArray) (a2_5 : Int) (r : Int) (w : World) (hr2_1 : Kd.C Kd.string w A2_1 l2_1.length l2_1) (hc2_1 : l2_1.length ≤ c2_1) (h : width_Seats.f k a0 a1 a2_0 l2_1 a2_2 a2_3 a2_4 a2_5 = some r) :
    Calls Try.prog 28 #[.int .i64 a0, .int .i64 a1, .agg #[.string a2_0, .slice A2_1 l2_1.length c2_1, .string a2_2, .string a2_3, .string a2_4, .int .i64 a2_5]] w fun e w' => e = .returned (.int .i64 r) ∧ Below w.heap.size w w' := by
  have hu40 := Try.underlying40
  have HR2_1 := Aside0.mk hr2_1
  have HC2_1 := Aside0.mk hc2_1
  clear hr2_1 hc2_1
  have HB := Aside0.mk (Below.refl w.heap.size w)
  have H : (if a2_2.toList = ([100, 101, 108, 101, 116, 101, 99, 111, 108, 108, 101, 99, 116, 105, 111, 110] : List UInt8) then (width_Seats.j0 k (mx a0 1) (mn (mx a1 1) 16) (mx a2_5 0) (0 + 1) a2_0 l2_1 a2_2 a2_3 a2_4 a2_5) else (if a2_2.toList = ([108, 105, 115, 116] : List UInt8) then (width_Seats.j0 k (mx a0 1) (mn (mx a1 1) 16) (mx a2_5 0) 0 a2_0 l2_1 a2_2 a2_3 a2_4 a2_5) else (if a2_2.toList = ([99, 114, 101, 97, 116, 101] : List UInt8) then (if (mx a2_5 0) > (mx a0 1) then (some (mn ((0 + 1) + 1) (mn (mx a1 1) 16))) else (some (mn (0 + 1) (mn (mx a1 1) 16)))) else (if a2_2.toList = ([117, 112, 100, 97, 116, 101] : List UInt8) then (if (mx a2_5 0) > (mx a0 1) then (some (mn ((0 + 1) + 1) (mn (mx a1 1) 16))) else (some (mn (0 + 1) (mn (mx a1 1) 16)))) else (if a2_2.toList = ([112, 97, 116, 99, 104] : List UInt8) then (if (mx a2_5 0) > (mx a0 1) then (some (mn ((0 + 1) + 1) (mn (mx a1 1) 16))) else (some (mn (0 + 1) (mn (mx a1 1) 16)))) else (if a2_2.toList = ([100, 101, 108, 101, 116, 101] : List UInt8) then (if (mx a2_5 0) > (mx a0 1) then (some (mn ((0 + 1) + 1) (mn (mx a1 1) 16))) else (some (mn (0 + 1) (mn (mx a1 1) 16)))) else (some (mn (0 + 1) (mn (mx a1 1) 16))))))))) = some r := h
  clear h
  obtain ⟨ji4, hji4⟩ : ∃ j_ : Int, (mx a0 1) = j_ := ⟨_, rfl⟩
  replace H : (if a2_2.toList = ([100, 101, 108, 101, 116, 101, 99, 111, 108, 108, 101, 99, 116, 105, 111, 110] : List UInt8) then (width_Seats.j0 k ji4 (mn (mx a1 1) 16) (mx a2_5 0) (0 + 1) a2_0 l2_1 a2_2 a2_3 a2_4 a2_5) else (if a2_2.toList = ([108, 105, 115, 116] : List UInt8) then (width_Seats.j0 k ji4 (mn (mx a1 1) 16) (mx a2_5 0) 0 a2_0 l2_1 a2_2 a2_3 a2_4 a2_5) else (if a2_2.toList = ([99, 114, 101, 97, 116, 101] : List UInt8) then (if (mx a2_5 0) > (ji4) then (some (mn ((0 + 1) + 1) (mn (mx a1 1) 16))) else (some (mn (0 + 1) (mn (mx a1 1) 16)))) else (if a2_2.toList = ([117, 112, 100, 97, 116, 101] : List UInt8) then (if (mx a2_5 0) > (ji4) then (some (mn ((0 + 1) + 1) (mn (mx a1 1) 16))) else (some (mn (0 + 1) (mn (mx a1 1) 16)))) else (if a2_2.toList = ([112, 97, 116, 99, 104] : List UInt8) then (if (mx a2_5 0) > (ji4) then (some (mn ((0 + 1) + 1) (mn (mx a1 1) 16))) else (some (mn (0 + 1) (mn (mx a1 1) 16)))) else (if a2_2.toList = ([100, 101, 108, 101, 116, 101] : List UInt8) then (if (mx a2_5 0) > (ji4) then (some (mn ((0 + 1) + 1) (mn (mx a1 1) 16))) else (some (mn (0 + 1) (mn (mx a1 1) 16)))) else (some (mn (0 + 1) (mn (mx a1 1) 16))))))))) = some r := by first | (rw [hji4] at H; exact H) | (simp only [hji4] at H ⊢; exact H)
  (try (have hji4l : 1 ≤ ji4 := by (rw [← hji4]; unfold mx; (repeat' split) <;> omega)))
  (try (have hji4m : 0 ≤ ji4 := by omega))
  have hji4_ : (if a0 < 1 then 1 else a0) = ji4 := hji4
  obtain ⟨ji5, hji5⟩ : ∃ j_ : Int, (mx a1 1) = j_ := ⟨_, rfl⟩
  replace H : (if a2_2.toList = ([100, 101, 108, 101, 116, 101, 99, 111, 108, 108, 101, 99, 116, 105, 111, 110] : List UInt8) then (width_Seats.j0 k ji4 (mn (ji5) 16) (mx a2_5 0) (0 + 1) a2_0 l2_1 a2_2 a2_3 a2_4 a2_5) else (if a2_2.toList = ([108, 105, 115, 116] : List UInt8) then (width_Seats.j0 k ji4 (mn (ji5) 16) (mx a2_5 0) 0 a2_0 l2_1 a2_2 a2_3 a2_4 a2_5) else (if a2_2.toList = ([99, 114, 101, 97, 116, 101] : List UInt8) then (if (mx a2_5 0) > (ji4) then (some (mn ((0 + 1) + 1) (mn (ji5) 16))) else (some (mn (0 + 1) (mn (ji5) 16)))) else (if a2_2.toList = ([117, 112, 100, 97, 116, 101] : List UInt8) then (if (mx a2_5 0) > (ji4) then (some (mn ((0 + 1) + 1) (mn (ji5) 16))) else (some (mn (0 + 1) (mn (ji5) 16)))) else (if a2_2.toList = ([112, 97, 116, 99, 104] : List UInt8) then (if (mx a2_5 0) > (ji4) then (some (mn ((0 + 1) + 1) (mn (ji5) 16))) else (some (mn (0 + 1) (mn (ji5) 16)))) else (if a2_2.toList = ([100, 101, 108, 101, 116, 101] : List UInt8) then (if (mx a2_5 0) > (ji4) then (some (mn ((0 + 1) + 1) (mn (ji5) 16))) else (some (mn (0 + 1) (mn (ji5) 16)))) else (some (mn (0 + 1) (mn (ji5) 16))))))))) = some r := by first | (rw [hji5] at H; exact H) | (simp only [hji5] at H ⊢; exact H)
  (try (have hji5l : 1 ≤ ji5 := by (rw [← hji5]; unfold mx; (repeat' split) <;> omega)))
  (try (have hji5m : 0 ≤ ji5 := by omega))
  have hji5_ : (if a1 < 1 then 1 else a1) = ji5 := hji5
  obtain ⟨ji6, hji6⟩ : ∃ j_ : Int, (mn (ji5) 16) = j_ := ⟨_, rfl⟩
  replace H : (if a2_2.toList = ([100, 101, 108, 101, 116, 101, 99, 111, 108, 108, 101, 99, 116, 105, 111, 110] : List UInt8) then (width_Seats.j0 k ji4 ji6 (mx a2_5 0) (0 + 1) a2_0 l2_1 a2_2 a2_3 a2_4 a2_5) else (if a2_2.toList = ([108, 105, 115, 116] : List UInt8) then (width_Seats.j0 k ji4 ji6 (mx a2_5 0) 0 a2_0 l2_1 a2_2 a2_3 a2_4 a2_5) else (if a2_2.toList = ([99, 114, 101, 97, 116, 101] : List UInt8) then (if (mx a2_5 0) > (ji4) then (some (mn ((0 + 1) + 1) (ji6))) else (some (mn (0 + 1) (ji6)))) else (if a2_2.toList = ([117, 112, 100, 97, 116, 101] : List UInt8) then (if (mx a2_5 0) > (ji4) then (some (mn ((0 + 1) + 1) (ji6))) else (some (mn (0 + 1) (ji6)))) else (if a2_2.toList = ([112, 97, 116, 99, 104] : List UInt8) then (if (mx a2_5 0) > (ji4) then (some (mn ((0 + 1) + 1) (ji6))) else (some (mn (0 + 1) (ji6)))) else (if a2_2.toList = ([100, 101, 108, 101, 116, 101] : List UInt8) then (if (mx a2_5 0) > (ji4) then (some (mn ((0 + 1) + 1) (ji6))) else (some (mn (0 + 1) (ji6)))) else (some (mn (0 + 1) (ji6))))))))) = some r := by first | (rw [hji6] at H; exact H) | (simp only [hji6] at H ⊢; exact H)
  have hji6_ : (if 16 < (ji5) then 16 else (ji5)) = ji6 := hji6
  obtain ⟨ji7, hji7⟩ : ∃ j_ : Int, (mx a2_5 0) = j_ := ⟨_, rfl⟩
  replace H : (if a2_2.toList = ([100, 101, 108, 101, 116, 101, 99, 111, 108, 108, 101, 99, 116, 105, 111, 110] : List UInt8) then (width_Seats.j0 k ji4 ji6 ji7 (0 + 1) a2_0 l2_1 a2_2 a2_3 a2_4 a2_5) else (if a2_2.toList = ([108, 105, 115, 116] : List UInt8) then (width_Seats.j0 k ji4 ji6 ji7 0 a2_0 l2_1 a2_2 a2_3 a2_4 a2_5) else (if a2_2.toList = ([99, 114, 101, 97, 116, 101] : List UInt8) then (if (ji7) > (ji4) then (some (mn ((0 + 1) + 1) (ji6))) else (some (mn (0 + 1) (ji6)))) else (if a2_2.toList = ([117, 112, 100, 97, 116, 101] : List UInt8) then (if (ji7) > (ji4) then (some (mn ((0 + 1) + 1) (ji6))) else (some (mn (0 + 1) (ji6)))) else (if a2_2.toList = ([112, 97, 116, 99, 104] : List UInt8) then (if (ji7) > (ji4) then (some (mn ((0 + 1) + 1) (ji6))) else (some (mn (0 + 1) (ji6)))) else (if a2_2.toList = ([100, 101, 108, 101, 116, 101] : List UInt8) then (if (ji7) > (ji4) then (some (mn ((0 + 1) + 1) (ji6))) else (some (mn (0 + 1) (ji6)))) else (some (mn (0 + 1) (ji6))))))))) = some r := by first | (rw [hji7] at H; exact H) | (simp only [hji7] at H ⊢; exact H)
  (try (have hji7l : 0 ≤ ji7 := by (rw [← hji7]; unfold mx; (repeat' split) <;> omega)))
  (try (have hji7m : 0 ≤ ji7 := by omega))
  have hji7_ : (if a2_5 < 0 then 0 else a2_5) = ji7 := hji7
  have HC8 := Aside0.mk H
  clear H
  go_enter Try.func28, Try.ntmps28
  go_upto_block 2 with (first | ((with_reducible refine gate_dst (N := 5) rfl ?_); refine box_event ?hg (N := 5) ?hd (cs := #[.string a2_0, .slice A2_1 l2_1.length c2_1, .string a2_2, .string a2_3, .string a2_4, .int .i64 a2_5]) (t := 40) ?hr ?_; (case hd => rfl); (case hg => rfl); (case hr => first | (go_simp; done) | (go_simp; rfl)); intro gb101 hg w9 hbox hb; have n0_ := Aside0.mk (below_step (by repeat (first | (with_reducible first | exact HB.out | apply below_alloc | apply pw_below_drewN | apply below_drew1) | exact HB.out)) hb); have n1_ := Aside0.mk (hbox); have n2_ := Aside0.mk ((by rw [hg]; exact (below_size (by repeat (first | (with_reducible first | exact HB.out | apply below_alloc | apply pw_below_drewN | apply below_drew1) | exact HB.out))) : w.heap.size ≤ gb101)); have n3_ := Aside0.mk ((by rw [hg]; exact (below_size (by repeat (first | (with_reducible first | exact HB.out | apply below_alloc | apply pw_below_drewN | apply below_drew1) | exact HB.out))) : w.heap.size ≤ gb101)); clear HB; have HB := n0_; have BK101 := n1_; have GW101 := n2_; have GE101 := n3_; clear n0_ n1_ n2_ n3_; clear hb hbox hg; have hcz10_0 : w9.cell? ⟨gb101, 0, none⟩ = some (.string a2_0) := (blk_cell BK101.out 0).trans rfl; have hcz10_1 : w9.cell? ⟨gb101, 1, none⟩ = some (.slice A2_1 l2_1.length c2_1) := (blk_cell BK101.out 1).trans rfl; have hcz10_2 : w9.cell? ⟨gb101, 2, none⟩ = some (.string a2_2) := (blk_cell BK101.out 2).trans rfl; have hcz10_3 : w9.cell? ⟨gb101, 3, none⟩ = some (.string a2_3) := (blk_cell BK101.out 3).trans rfl; have hcz10_4 : w9.cell? ⟨gb101, 4, none⟩ = some (.string a2_4) := (blk_cell BK101.out 4).trans rfl; have hcz10_5 : w9.cell? ⟨gb101, 5, none⟩ = some (.int .i64 a2_5) := (blk_cell BK101.out 5).trans rfl; have hfz10_0 := blk_frozen BK101.out 0; have hfz10_1 := blk_frozen BK101.out 1; have hfz10_2 := blk_frozen BK101.out 2; have hfz10_3 := blk_frozen BK101.out 3; have hfz10_4 := blk_frozen BK101.out 4; have hfz10_5 := blk_frozen BK101.out 5))
  (try simp only [Act.put, List.setIfInBounds_toArray, List.set_cons_zero, List.set_cons_succ])
  go_cut [8] (fun v8 wc => ∃ (kq : Nat) (x8_7 : Int), v8 = .int .i64 x8_7 ∧ Aside0 (width_Seats.j0 kq ji4 ji6 ji7 x8_7 a2_0 l2_1 a2_2 a2_3 a2_4 a2_5 = some r) ∧ Aside0 (kq ≤ k) ∧ Aside0 (wc.heap[gb101]? = some (.cells #[.string a2_0, (.slice A2_1 l2_1.length c2_1), .string a2_2, .string a2_3, .string a2_4, .int .i64 a2_5] 40 (0, 0))) ∧ Aside0 (Below w.heap.size w wc))
  case first =>
    have H := HC8.out
    clear HC8
    by_cases c11 : a2_2.toList = ([100, 101, 108, 101, 116, 101, 99, 111, 108, 108, 101, 99, 116, 105, 111, 110] : List UInt8)
    · rw [if_pos c11] at H
      have c11b0 : (a2_2.toList == ([100, 101, 108, 101, 116, 101, 99, 111, 108, 108, 101, 99, 116, 105, 111, 110] : List UInt8)) = true := beq_iff_eq.mpr c11
      have c11b1 : (a2_2.toList != ([100, 101, 108, 101, 116, 101, 99, 111, 108, 108, 101, 99, 116, 105, 111, 110] : List UInt8)) = false := bne_eq_false_iff_eq.mpr c11
      clear c11
      (first | rw [c11b0] | (simp only [i64_w, i32_w]; rw [c11b0]) | skip)
      have H' := Aside0.mk H
      clear H
      go_wp2
      go_meet
      case rel => exact ⟨_, (0 + 1), (by first | rfl | (simp; done) | (simp [*]; done)), H', ⟨by first | omega | exact Nat.le_refl _⟩, ⟨by (with_reducible repeat (first | refine blk_drewN ?_ _ | refine blk_drew ?_ | refine blk_alloc ?_ _)); exact BK101.out⟩, ⟨by repeat (first | (with_reducible first | exact HB.out | apply below_alloc | apply pw_below_drewN | apply below_drew1 | refine below_set ?_ GE101.out) | exact HB.out)⟩⟩
    · rw [if_neg c11] at H
      have c11b0 : (a2_2.toList == ([100, 101, 108, 101, 116, 101, 99, 111, 108, 108, 101, 99, 116, 105, 111, 110] : List UInt8)) = false := beq_eq_false_iff_ne.mpr c11
      have c11b1 : (a2_2.toList != ([100, 101, 108, 101, 116, 101, 99, 111, 108, 108, 101, 99, 116, 105, 111, 110] : List UInt8)) = true := bne_iff_ne.mpr c11
      (first | rw [c11b0] | (simp only [i64_w, i32_w]; rw [c11b0]) | skip)
      by_cases c12 : a2_2.toList = ([108, 105, 115, 116] : List UInt8)
      · rw [if_pos c12] at H
        have c12b0 : (a2_2.toList == ([108, 105, 115, 116] : List UInt8)) = true := beq_iff_eq.mpr c12
        have c12b1 : (a2_2.toList != ([108, 105, 115, 116] : List UInt8)) = false := bne_eq_false_iff_eq.mpr c12
        clear c12
        have H' := Aside0.mk H
        clear H
        go_wp2
        go_meet
        case rel => exact ⟨_, (0), (by first | rfl | (simp; done) | (simp [*]; done)), H', ⟨by first | omega | exact Nat.le_refl _⟩, ⟨by (with_reducible repeat (first | refine blk_drewN ?_ _ | refine blk_drew ?_ | refine blk_alloc ?_ _)); exact BK101.out⟩, ⟨by repeat (first | (with_reducible first | exact HB.out | apply below_alloc | apply pw_below_drewN | apply below_drew1 | refine below_set ?_ GE101.out) | exact HB.out)⟩⟩
      · rw [if_neg c12] at H
        have c12b0 : (a2_2.toList == ([108, 105, 115, 116] : List UInt8)) = false := beq_eq_false_iff_ne.mpr c12
        have c12b1 : (a2_2.toList != ([108, 105, 115, 116] : List UInt8)) = true := bne_iff_ne.mpr c12
        by_cases c13 : a2_2.toList = ([99, 114, 101, 97, 116, 101] : List UInt8)
        · rw [if_pos c13] at H
          have c13b0 : (a2_2.toList == ([99, 114, 101, 97, 116, 101] : List UInt8)) = true := beq_iff_eq.mpr c13
          have c13b1 : (a2_2.toList != ([99, 114, 101, 97, 116, 101] : List UInt8)) = false := bne_eq_false_iff_eq.mpr c13
          clear c13
          by_cases c14 : (ji7) > (ji4)
          · rw [if_pos c14] at H
            have c14b0 : decide ((ji4) < (ji7)) = true := decide_eq_true c14
            clear c14
            obtain ⟨ji15, hji15⟩ : ∃ j_ : Int, (mn ((0 + 1) + 1) (ji6)) = j_ := ⟨_, rfl⟩
            replace H : (some ji15) = some r := by first | (rw [hji15] at H; exact H) | (simp only [hji15] at H ⊢; exact H)
            have hji15_ : (if (ji6) < 2 then (ji6) else 2) = ji15 := hji15
            obtain rfl := Option.some.inj H
            go_wp2
            go_ret
            exact ⟨by first | rfl | (simp [errW_none, errW_some] <;> rfl) | (simp only [← hji4, ← hji5, ← hji6, ← hji7, ← hji15]; first | rfl | (simp [errW_none, errW_some] <;> rfl)) | (simp [*, errW_none, errW_some] <;> rfl), by repeat (first | (with_reducible first | exact HB.out | apply below_alloc | apply pw_below_drewN | apply below_drew1 | refine below_set ?_ GE101.out) | exact HB.out)⟩
          · rw [if_neg c14] at H
            have c14b0 : decide ((ji4) < (ji7)) = false := decide_eq_false c14
            clear c14
            obtain ⟨ji16, hji16⟩ : ∃ j_ : Int, (mn (0 + 1) (ji6)) = j_ := ⟨_, rfl⟩
            replace H : (some ji16) = some r := by first | (rw [hji16] at H; exact H) | (simp only [hji16] at H ⊢; exact H)
            have hji16_ : (if (ji6) < 1 then (ji6) else 1) = ji16 := hji16
            obtain rfl := Option.some.inj H
            go_wp2
            go_ret
            exact ⟨by first | rfl | (rw [show ji16 = 1 by rw [← hji16_, if_neg (by rw [← hji6_]; split <;> omega)]]; rfl) | (simp [errW_none, errW_some] <;> rfl) | (simp only [← hji4, ← hji5, ← hji6, ← hji7, ← hji16]; first | rfl | (simp [errW_none, errW_some] <;> rfl)) | (simp [*, errW_none, errW_some] <;> rfl), by repeat (first | (with_reducible first | exact HB.out | apply below_alloc | apply pw_below_drewN | apply below_drew1 | refine below_set ?_ GE101.out) | exact HB.out)⟩
        · rw [if_neg c13] at H
          have c13b0 : (a2_2.toList == ([99, 114, 101, 97, 116, 101] : List UInt8)) = false := beq_eq_false_iff_ne.mpr c13
          have c13b1 : (a2_2.toList != ([99, 114, 101, 97, 116, 101] : List UInt8)) = true := bne_iff_ne.mpr c13
          by_cases c17 : a2_2.toList = ([117, 112, 100, 97, 116, 101] : List UInt8)
          · rw [if_pos c17] at H
            have c17b0 : (a2_2.toList == ([117, 112, 100, 97, 116, 101] : List UInt8)) = true := beq_iff_eq.mpr c17
            have c17b1 : (a2_2.toList != ([117, 112, 100, 97, 116, 101] : List UInt8)) = false := bne_eq_false_iff_eq.mpr c17
            clear c17
            by_cases c18 : (ji7) > (ji4)
            · rw [if_pos c18] at H
              have c18b0 : decide ((ji4) < (ji7)) = true := decide_eq_true c18
              clear c18
              obtain ⟨ji19, hji19⟩ : ∃ j_ : Int, (mn ((0 + 1) + 1) (ji6)) = j_ := ⟨_, rfl⟩
              replace H : (some ji19) = some r := by first | (rw [hji19] at H; exact H) | (simp only [hji19] at H ⊢; exact H)
              have hji19_ : (if (ji6) < 2 then (ji6) else 2) = ji19 := hji19
              obtain rfl := Option.some.inj H
              go_wp2
              go_ret
              exact ⟨by first | rfl | (simp [errW_none, errW_some] <;> rfl) | (simp only [← hji4, ← hji5, ← hji6, ← hji7, ← hji19]; first | rfl | (simp [errW_none, errW_some] <;> rfl)) | (simp [*, errW_none, errW_some] <;> rfl), by repeat (first | (with_reducible first | exact HB.out | apply below_alloc | apply pw_below_drewN | apply below_drew1 | refine below_set ?_ GE101.out) | exact HB.out)⟩
            · rw [if_neg c18] at H
              have c18b0 : decide ((ji4) < (ji7)) = false := decide_eq_false c18
              clear c18
              obtain ⟨ji20, hji20⟩ : ∃ j_ : Int, (mn (0 + 1) (ji6)) = j_ := ⟨_, rfl⟩
              replace H : (some ji20) = some r := by first | (rw [hji20] at H; exact H) | (simp only [hji20] at H ⊢; exact H)
              have hji20_ : (if (ji6) < 1 then (ji6) else 1) = ji20 := hji20
              obtain rfl := Option.some.inj H
              go_wp2
              go_ret
              exact ⟨by first | rfl | (rw [show ji20 = 1 by rw [← hji20_, if_neg (by rw [← hji6_]; split <;> omega)]]; rfl) | (simp [errW_none, errW_some] <;> rfl) | (simp only [← hji4, ← hji5, ← hji6, ← hji7, ← hji20]; first | rfl | (simp [errW_none, errW_some] <;> rfl)) | (simp [*, errW_none, errW_some] <;> rfl), by repeat (first | (with_reducible first | exact HB.out | apply below_alloc | apply pw_below_drewN | apply below_drew1 | refine below_set ?_ GE101.out) | exact HB.out)⟩
          · rw [if_neg c17] at H
            have c17b0 : (a2_2.toList == ([117, 112, 100, 97, 116, 101] : List UInt8)) = false := beq_eq_false_iff_ne.mpr c17
            have c17b1 : (a2_2.toList != ([117, 112, 100, 97, 116, 101] : List UInt8)) = true := bne_iff_ne.mpr c17
            by_cases c21 : a2_2.toList = ([112, 97, 116, 99, 104] : List UInt8)
            · rw [if_pos c21] at H
              have c21b0 : (a2_2.toList == ([112, 97, 116, 99, 104] : List UInt8)) = true := beq_iff_eq.mpr c21
              have c21b1 : (a2_2.toList != ([112, 97, 116, 99, 104] : List UInt8)) = false := bne_eq_false_iff_eq.mpr c21
              clear c21
              by_cases c22 : (ji7) > (ji4)
              · rw [if_pos c22] at H
                have c22b0 : decide ((ji4) < (ji7)) = true := decide_eq_true c22
                clear c22
                obtain ⟨ji23, hji23⟩ : ∃ j_ : Int, (mn ((0 + 1) + 1) (ji6)) = j_ := ⟨_, rfl⟩
                replace H : (some ji23) = some r := by first | (rw [hji23] at H; exact H) | (simp only [hji23] at H ⊢; exact H)
                have hji23_ : (if (ji6) < 2 then (ji6) else 2) = ji23 := hji23
                obtain rfl := Option.some.inj H
                go_wp2
                go_ret
                exact ⟨by first | rfl | (simp [errW_none, errW_some] <;> rfl) | (simp only [← hji4, ← hji5, ← hji6, ← hji7, ← hji23]; first | rfl | (simp [errW_none, errW_some] <;> rfl)) | (simp [*, errW_none, errW_some] <;> rfl), by repeat (first | (with_reducible first | exact HB.out | apply below_alloc | apply pw_below_drewN | apply below_drew1 | refine below_set ?_ GE101.out) | exact HB.out)⟩
              · rw [if_neg c22] at H
                have c22b0 : decide ((ji4) < (ji7)) = false := decide_eq_false c22
                clear c22
                obtain ⟨ji24, hji24⟩ : ∃ j_ : Int, (mn (0 + 1) (ji6)) = j_ := ⟨_, rfl⟩
                replace H : (some ji24) = some r := by first | (rw [hji24] at H; exact H) | (simp only [hji24] at H ⊢; exact H)
                have hji24_ : (if (ji6) < 1 then (ji6) else 1) = ji24 := hji24
                obtain rfl := Option.some.inj H
                go_wp2
                go_ret
                exact ⟨by first | rfl | (rw [show ji24 = 1 by rw [← hji24_, if_neg (by rw [← hji6_]; split <;> omega)]]; rfl) | (simp [errW_none, errW_some] <;> rfl) | (simp only [← hji4, ← hji5, ← hji6, ← hji7, ← hji24]; first | rfl | (simp [errW_none, errW_some] <;> rfl)) | (simp [*, errW_none, errW_some] <;> rfl), by repeat (first | (with_reducible first | exact HB.out | apply below_alloc | apply pw_below_drewN | apply below_drew1 | refine below_set ?_ GE101.out) | exact HB.out)⟩
            · rw [if_neg c21] at H
              have c21b0 : (a2_2.toList == ([112, 97, 116, 99, 104] : List UInt8)) = false := beq_eq_false_iff_ne.mpr c21
              have c21b1 : (a2_2.toList != ([112, 97, 116, 99, 104] : List UInt8)) = true := bne_iff_ne.mpr c21
              by_cases c25 : a2_2.toList = ([100, 101, 108, 101, 116, 101] : List UInt8)
              · rw [if_pos c25] at H
                have c25b0 : (a2_2.toList == ([100, 101, 108, 101, 116, 101] : List UInt8)) = true := beq_iff_eq.mpr c25
                have c25b1 : (a2_2.toList != ([100, 101, 108, 101, 116, 101] : List UInt8)) = false := bne_eq_false_iff_eq.mpr c25
                clear c25
                by_cases c26 : (ji7) > (ji4)
                · rw [if_pos c26] at H
                  have c26b0 : decide ((ji4) < (ji7)) = true := decide_eq_true c26
                  clear c26
                  obtain ⟨ji27, hji27⟩ : ∃ j_ : Int, (mn ((0 + 1) + 1) (ji6)) = j_ := ⟨_, rfl⟩
                  replace H : (some ji27) = some r := by first | (rw [hji27] at H; exact H) | (simp only [hji27] at H ⊢; exact H)
                  have hji27_ : (if (ji6) < 2 then (ji6) else 2) = ji27 := hji27
                  obtain rfl := Option.some.inj H
                  go_wp2
                  go_ret
                  exact ⟨by first | rfl | (simp [errW_none, errW_some] <;> rfl) | (simp only [← hji4, ← hji5, ← hji6, ← hji7, ← hji27]; first | rfl | (simp [errW_none, errW_some] <;> rfl)) | (simp [*, errW_none, errW_some] <;> rfl), by repeat (first | (with_reducible first | exact HB.out | apply below_alloc | apply pw_below_drewN | apply below_drew1 | refine below_set ?_ GE101.out) | exact HB.out)⟩
                · rw [if_neg c26] at H
                  have c26b0 : decide ((ji4) < (ji7)) = false := decide_eq_false c26
                  clear c26
                  obtain ⟨ji28, hji28⟩ : ∃ j_ : Int, (mn (0 + 1) (ji6)) = j_ := ⟨_, rfl⟩
                  replace H : (some ji28) = some r := by first | (rw [hji28] at H; exact H) | (simp only [hji28] at H ⊢; exact H)
                  have hji28_ : (if (ji6) < 1 then (ji6) else 1) = ji28 := hji28
                  obtain rfl := Option.some.inj H
                  go_wp2
                  go_ret
                  exact ⟨by first | rfl | (rw [show ji28 = 1 by rw [← hji28_, if_neg (by rw [← hji6_]; split <;> omega)]]; rfl) | (simp [errW_none, errW_some] <;> rfl) | (simp only [← hji4, ← hji5, ← hji6, ← hji7, ← hji28]; first | rfl | (simp [errW_none, errW_some] <;> rfl)) | (simp [*, errW_none, errW_some] <;> rfl), by repeat (first | (with_reducible first | exact HB.out | apply below_alloc | apply pw_below_drewN | apply below_drew1 | refine below_set ?_ GE101.out) | exact HB.out)⟩
              · rw [if_neg c25] at H
                have c25b0 : (a2_2.toList == ([100, 101, 108, 101, 116, 101] : List UInt8)) = false := beq_eq_false_iff_ne.mpr c25
                have c25b1 : (a2_2.toList != ([100, 101, 108, 101, 116, 101] : List UInt8)) = true := bne_iff_ne.mpr c25
                obtain ⟨ji29, hji29⟩ : ∃ j_ : Int, (mn (0 + 1) (ji6)) = j_ := ⟨_, rfl⟩
                replace H : (some ji29) = some r := by first | (rw [hji29] at H; exact H) | (simp only [hji29] at H ⊢; exact H)
                have hji29_ : (if (ji6) < 1 then (ji6) else 1) = ji29 := hji29
                obtain rfl := Option.some.inj H
                go_wp2
                go_ret
                exact ⟨by first | rfl | (rw [show ji29 = 1 by rw [← hji29_, if_neg (by rw [← hji6_]; split <;> omega)]]; rfl) | (simp [errW_none, errW_some] <;> rfl) | (simp only [← hji4, ← hji5, ← hji6, ← hji7, ← hji29]; first | rfl | (simp [errW_none, errW_some] <;> rfl)) | (simp [*, errW_none, errW_some] <;> rfl), by repeat (first | (with_reducible first | exact HB.out | apply below_alloc | apply pw_below_drewN | apply below_drew1 | refine below_set ?_ GE101.out) | exact HB.out)⟩
  case rest =>
    clear HC8
    try clear c1
    try clear c2
    try clear p2
    try clear c11
    try clear c11b0
    try clear c11b1
    try clear c12
    try clear c12b0
    try clear c12b1
    try clear c13
    try clear c13b0
    try clear c13b1
    try clear c14
    try clear c14b0
    try clear c17
    try clear c17b0
    try clear c17b1
    try clear c18
    try clear c18b0
    try clear c21
    try clear c21b0
    try clear c21b1
    try clear c22
    try clear c22b0
    try clear c25
    try clear c25b0
    try clear c25b1
    try clear c26
    try clear c26b0
    try clear c28
    try clear hcz10_0
    try clear hcz10_1
    try clear hcz10_2
    try clear hcz10_3
    try clear hcz10_4
    try clear hcz10_5
    try clear hfz10_0
    try clear hfz10_1
    try clear hfz10_2
    try clear hfz10_3
    try clear hfz10_4
    try clear hfz10_5
    obtain ⟨kq, x8_7, rfl, HA, HJ7, BK101, HB⟩ := hcut
    cases kq with
    | zero => exact absurd HA.out (by simp [width_Seats.j0])
    | succ kj7 =>
      have H := HA.out
      clear HA
      simp only [width_Seats.j0] at H
      replace H := Option.bind_eq_some_iff.mp H
      obtain ⟨t102, A300, H⟩ := H
      replace H : (if a2_4.toList = ([] : List UInt8) then (some (mn (wrap64 (x8_7 + (mn (mx t102 1) ji6))) ji6)) else ((width_up.f t102 2).bind fun t103 => (some (mn (wrap64 (x8_7 + (mn (mx t103 1) ji6))) ji6)))) = some r := H
      have A30 := Aside0.mk A300
      clear A300
      by_cases c31 : a2_4.toList = ([] : List UInt8)
      · rw [if_pos c31] at H
        have c31b0 : (a2_4.toList == ([] : List UInt8)) = true := beq_iff_eq.mpr c31
        have c31b1 : (a2_4.toList != ([] : List UInt8)) = false := bne_eq_false_iff_eq.mpr c31
        clear c31
        obtain ⟨ji32, hji32⟩ : ∃ j_ : Int, (mx t102 1) = j_ := ⟨_, rfl⟩
        replace H : (some (mn (wrap64 (x8_7 + (mn (ji32) ji6))) ji6)) = some r := by first | (rw [hji32] at H; exact H) | (simp only [hji32] at H ⊢; exact H)
        (try rw [hji32] at A30)
        (try (have hji32l : 1 ≤ ji32 := by (rw [← hji32]; unfold mx; (repeat' split) <;> omega)))
        (try (have hji32m : 0 ≤ ji32 := by omega))
        have hji32_ : (if t102 < 1 then 1 else t102) = ji32 := hji32
        obtain ⟨ji33, hji33⟩ : ∃ j_ : Int, (mn (ji32) ji6) = j_ := ⟨_, rfl⟩
        replace H : (some (mn (wrap64 (x8_7 + (ji33))) ji6)) = some r := by first | (rw [hji33] at H; exact H) | (simp only [hji33] at H ⊢; exact H)
        (try rw [hji33] at A30)
        have hji33_ : (if ji6 < (ji32) then ji6 else (ji32)) = ji33 := hji33
        obtain ⟨ji34, hji34⟩ : ∃ j_ : Int, (mn (wrap64 (x8_7 + (ji33))) ji6) = j_ := ⟨_, rfl⟩
        replace H : (some ji34) = some r := by first | (rw [hji34] at H; exact H) | (simp only [hji34] at H ⊢; exact H)
        (try rw [hji34] at A30)
        have hji34_ : (if ji6 < (wrap64 (x8_7 + (ji33))) then ji6 else (wrap64 (x8_7 + (ji33)))) = ji34 := hji34
        obtain rfl := Option.some.inj H
        go_wp2_with (first | ((with_reducible refine gate_callee (f := 32) rfl ?_); refine goesL_ (some 33) rfl rfl Try.func32 (by kernel_rfl) rfl #[.int .i64 ji7, .int .i64 ji4] rfl (by (try simp only [List.map_toArray, List.map_cons, List.map_nil]); first | done | (simp only [hji4, hji7]; rfl) | rfl | (simp only [List.length_drop, List.length_take]; rfl)) ?_; (with_reducible refine (width_up.calls ji7 ji4 t102 _ A30.out).mono ?_); rintro e w' ⟨rfl, ⟨nd, rfl⟩⟩; refine ⟨_, rfl, ?_⟩; have hcz35_0 : wc.cell? ⟨gb101, 0, none⟩ = some (.string a2_0) := (blk_cell BK101.out 0).trans rfl; have hcz35_1 : wc.cell? ⟨gb101, 1, none⟩ = some (.slice A2_1 l2_1.length c2_1) := (blk_cell BK101.out 1).trans rfl; have hcz35_2 : wc.cell? ⟨gb101, 2, none⟩ = some (.string a2_2) := (blk_cell BK101.out 2).trans rfl; have hcz35_3 : wc.cell? ⟨gb101, 3, none⟩ = some (.string a2_3) := (blk_cell BK101.out 3).trans rfl; have hcz35_4 : wc.cell? ⟨gb101, 4, none⟩ = some (.string a2_4) := (blk_cell BK101.out 4).trans rfl; have hcz35_5 : wc.cell? ⟨gb101, 5, none⟩ = some (.int .i64 a2_5) := (blk_cell BK101.out 5).trans rfl; have hfz35_0 := blk_frozen BK101.out 0; have hfz35_1 := blk_frozen BK101.out 1; have hfz35_2 := blk_frozen BK101.out 2; have hfz35_3 := blk_frozen BK101.out 3; have hfz35_4 := blk_frozen BK101.out 4; have hfz35_5 := blk_frozen BK101.out 5))
        go_ret
        exact ⟨by first | rfl | (simp [errW_none, errW_some] <;> rfl) | (simp only [← hji4, ← hji5, ← hji6, ← hji7, ← hji32, ← hji33, ← hji34]; first | rfl | (simp [errW_none, errW_some] <;> rfl)) | (simp [*, errW_none, errW_some] <;> rfl), by repeat (first | (with_reducible first | exact HB.out | apply below_alloc | apply pw_below_drewN | apply below_drew1 | refine below_set ?_ GE101.out) | exact HB.out)⟩
      · rw [if_neg c31] at H
        have c31b0 : (a2_4.toList == ([] : List UInt8)) = false := beq_eq_false_iff_ne.mpr c31
        have c31b1 : (a2_4.toList != ([] : List UInt8)) = true := bne_iff_ne.mpr c31
        replace H := Option.bind_eq_some_iff.mp H
        obtain ⟨t103, A360, H⟩ := H
        replace H : (some (mn (wrap64 (x8_7 + (mn (mx t103 1) ji6))) ji6)) = some r := H
        have A36 := Aside0.mk A360
        clear A360
        obtain ⟨ji37, hji37⟩ : ∃ j_ : Int, (mx t103 1) = j_ := ⟨_, rfl⟩
        replace H : (some (mn (wrap64 (x8_7 + (mn (ji37) ji6))) ji6)) = some r := by first | (rw [hji37] at H; exact H) | (simp only [hji37] at H ⊢; exact H)
        (try rw [hji37] at A30)
        (try rw [hji37] at A36)
        (try (have hji37l : 1 ≤ ji37 := by (rw [← hji37]; unfold mx; (repeat' split) <;> omega)))
        (try (have hji37m : 0 ≤ ji37 := by omega))
        have hji37_ : (if t103 < 1 then 1 else t103) = ji37 := hji37
        obtain ⟨ji38, hji38⟩ : ∃ j_ : Int, (mn (ji37) ji6) = j_ := ⟨_, rfl⟩
        replace H : (some (mn (wrap64 (x8_7 + (ji38))) ji6)) = some r := by first | (rw [hji38] at H; exact H) | (simp only [hji38] at H ⊢; exact H)
        (try rw [hji38] at A30)
        (try rw [hji38] at A36)
        have hji38_ : (if ji6 < (ji37) then ji6 else (ji37)) = ji38 := hji38
        obtain ⟨ji39, hji39⟩ : ∃ j_ : Int, (mn (wrap64 (x8_7 + (ji38))) ji6) = j_ := ⟨_, rfl⟩
        replace H : (some ji39) = some r := by first | (rw [hji39] at H; exact H) | (simp only [hji39] at H ⊢; exact H)
        (try rw [hji39] at A30)
        (try rw [hji39] at A36)
        have hji39_ : (if ji6 < (wrap64 (x8_7 + (ji38))) then ji6 else (wrap64 (x8_7 + (ji38)))) = ji39 := hji39
        obtain rfl := Option.some.inj H
        go_wp2_with (first | ((with_reducible refine gate_callee (f := 32) rfl ?_); refine goesL_ (some 33) rfl rfl Try.func32 (by kernel_rfl) rfl #[.int .i64 ji7, .int .i64 ji4] rfl (by (try simp only [List.map_toArray, List.map_cons, List.map_nil]); first | done | (simp only [hji4, hji7]; rfl) | rfl | (simp only [List.length_drop, List.length_take]; rfl)) ?_; (with_reducible refine (width_up.calls ji7 ji4 t102 _ A30.out).mono ?_); rintro e w' ⟨rfl, ⟨nd, rfl⟩⟩; refine ⟨_, rfl, ?_⟩; have hcz40_0 : wc.cell? ⟨gb101, 0, none⟩ = some (.string a2_0) := (blk_cell BK101.out 0).trans rfl; have hcz40_1 : wc.cell? ⟨gb101, 1, none⟩ = some (.slice A2_1 l2_1.length c2_1) := (blk_cell BK101.out 1).trans rfl; have hcz40_2 : wc.cell? ⟨gb101, 2, none⟩ = some (.string a2_2) := (blk_cell BK101.out 2).trans rfl; have hcz40_3 : wc.cell? ⟨gb101, 3, none⟩ = some (.string a2_3) := (blk_cell BK101.out 3).trans rfl; have hcz40_4 : wc.cell? ⟨gb101, 4, none⟩ = some (.string a2_4) := (blk_cell BK101.out 4).trans rfl; have hcz40_5 : wc.cell? ⟨gb101, 5, none⟩ = some (.int .i64 a2_5) := (blk_cell BK101.out 5).trans rfl; have hfz40_0 := blk_frozen BK101.out 0; have hfz40_1 := blk_frozen BK101.out 1; have hfz40_2 := blk_frozen BK101.out 2; have hfz40_3 := blk_frozen BK101.out 3; have hfz40_4 := blk_frozen BK101.out 4; have hfz40_5 := blk_frozen BK101.out 5) | ((with_reducible refine gate_callee (f := 32) rfl ?_); refine goesL_ (some 38) rfl rfl Try.func32 (by kernel_rfl) rfl #[.int .i64 t102, .int .i64 2] rfl (by (try simp only [List.map_toArray, List.map_cons, List.map_nil]); first | done | rfl | (simp only [List.length_drop, List.length_take]; rfl)) ?_; (with_reducible refine (width_up.calls t102 2 t103 _ A36.out).mono ?_); rintro e w' ⟨rfl, ⟨nd, rfl⟩⟩; refine ⟨_, rfl, ?_⟩))
        go_ret
        exact ⟨by first | rfl | (simp [errW_none, errW_some] <;> rfl) | (simp only [← hji4, ← hji5, ← hji6, ← hji7, ← hji37, ← hji38, ← hji39]; first | rfl | (simp [errW_none, errW_some] <;> rfl)) | (simp [*, errW_none, errW_some] <;> rfl), by repeat (first | (with_reducible first | exact HB.out | apply below_alloc | apply pw_below_drewN | apply below_drew1 | refine below_set ?_ GE101.out) | exact HB.out)⟩

/-! ### usherlaw17_awake: function 26 -/
def usherlaw17_awake.f (k : Nat)  : Option (Bool) := (width_Seats.f k 100 10 (⟨#[]⟩ : ByteArray) ([] : List ByteArray) (⟨#[108, 105, 115, 116]⟩ : ByteArray) (⟨#[]⟩ : ByteArray) (⟨#[]⟩ : ByteArray) 250).bind fun t104 => (some (t104 == 3))
theorem usherlaw17_awake.mono : ∀ k, LeO (usherlaw17_awake.f k ) (usherlaw17_awake.f (k + 1) ) := by
  intro  k
  unfold usherlaw17_awake.f
  repeat' first
      | (with_reducible exact width_Seats.mono _ _ _ _ _ _ _ _ _)
      | (with_reducible exact LeO.refl _)
      | (with_reducible exact LeO.none _)
      | (with_reducible refine LeO.ite ?_ ?_)
      | (with_reducible refine LeO.bind ?_ (fun _ => ?_))
      | exact width_Seats.mono _ _ _ _ _ _ _ _ _
      | exact LeO.none _
      | refine LeO.ite ?_ ?_
      | refine LeO.bind ?_ (fun _ => ?_)
set_option maxHeartbeats 8000000 in
set_option maxRecDepth 100000 in
theorem usherlaw17_awake.calls (k : Nat)  (r : Bool) (w : World) (h : usherlaw17_awake.f k  = some r) :
    Calls Try.prog 26 #[] w fun e w' => e = .returned (.bool r) ∧ Below w.heap.size w w' := by
  have hu40 := Try.underlying40
  have HB := Aside0.mk (Below.refl w.heap.size w)
  have H : ((width_Seats.f k 100 10 (⟨#[]⟩ : ByteArray) ([] : List ByteArray) (⟨#[108, 105, 115, 116]⟩ : ByteArray) (⟨#[]⟩ : ByteArray) (⟨#[]⟩ : ByteArray) 250).bind fun t104 => (some (t104 == 3))) = some r := h
  clear h
  replace H := Option.bind_eq_some_iff.mp H
  obtain ⟨t104, A10, H⟩ := H
  replace H : (some (t104 == 3)) = some r := H
  have A1 := Aside0.mk A10
  clear A10
  obtain rfl := Option.some.inj H
  go_enter Try.func26, Try.ntmps26
  go_wp2_with (first | ((with_reducible refine gate_callee (f := 28) rfl ?_); refine goesL_ (some 2) rfl rfl Try.func28 (by kernel_rfl) rfl #[.int .i64 100, .int .i64 10, .agg #[.string (⟨#[]⟩ : ByteArray), .slice none 0 0, .string (⟨#[108, 105, 115, 116]⟩ : ByteArray), .string (⟨#[]⟩ : ByteArray), .string (⟨#[]⟩ : ByteArray), .int .i64 250]] rfl (by (try simp only [List.map_toArray, List.map_cons, List.map_nil]); first | done | rfl | (simp only [List.length_drop, List.length_take]; rfl)) ?_; (refine (width_Seats.calls k 100 10 (⟨#[]⟩ : ByteArray) _ _ ([] : List ByteArray) (⟨#[108, 105, 115, 116]⟩ : ByteArray) (⟨#[]⟩ : ByteArray) (⟨#[]⟩ : ByteArray) 250 t104 _ ?side1 ?side2 A1.out).mono ?_); (case side1 => exact Kd.C_nil _ _); (case side2 => exact Nat.le_refl _); rintro e w2 ⟨rfl, hb⟩; refine ⟨_, rfl, ?_⟩; have n0_ := Aside0.mk (below_step (by repeat (first | (with_reducible first | exact HB.out | apply below_alloc | apply pw_below_drewN | apply below_drew1) | exact HB.out)) hb); clear HB; have HB := n0_; clear n0_; (try clear hb); (try clear hb2); (try clear hk); (try clear hi)))
  go_ret
  exact ⟨by first | rfl | (simp [errW_none, errW_some] <;> rfl) | (simp [*, errW_none, errW_some] <;> rfl), by repeat (first | (with_reducible first | exact HB.out | apply below_alloc | apply pw_below_drewN | apply below_drew1) | exact HB.out)⟩

/-! ### usherref15_Small: function 27 -/
mutual
def usherref15_Small.j0 : Nat → Bool → ByteArray → List ByteArray → ByteArray → ByteArray → ByteArray → Int → Option (Bool)
  | 0, _, _, _, _, _, _, _ => none
  | k + 1, x31, x106000, x106001, x106002, x106003, x106004, x106005 => if x31 = true then (some false) else (usherref15_Small.l0 k 0 x106000 x106001 x106002 x106003 x106004 x106005)
def usherref15_Small.l0 : Nat → Int → ByteArray → List ByteArray → ByteArray → ByteArray → ByteArray → Int → Option (Bool)
  | 0, _, _, _, _, _, _, _ => none
  | k + 1, x3, x106000, x106001, x106002, x106003, x106004, x106005 => if x3 < (x106001.length : Int) then (if 0 ≤ x3 then (if ((rdOf ByteArray.empty x106001 x3).size : Int) > 1000 then (some false) else (usherref15_Small.l0 k (wrap64 (x3 + 1)) x106000 x106001 x106002 x106003 x106004 x106005)) else (none)) else (some true)
end
def usherref15_Small.f (k : Nat) (a0_0 : ByteArray) (l0_1 : List ByteArray) (a0_2 : ByteArray) (a0_3 : ByteArray) (a0_4 : ByteArray) (a0_5 : Int) : Option (Bool) := if (a0_0.size : Int) > 1000 then (usherref15_Small.j0 k true a0_0 l0_1 a0_2 a0_3 a0_4 a0_5) else (if (a0_2.size : Int) > 1000 then (usherref15_Small.j0 k true a0_0 l0_1 a0_2 a0_3 a0_4 a0_5) else (if (a0_3.size : Int) > 1000 then (usherref15_Small.j0 k true a0_0 l0_1 a0_2 a0_3 a0_4 a0_5) else (if (a0_4.size : Int) > 1000 then (usherref15_Small.j0 k true a0_0 l0_1 a0_2 a0_3 a0_4 a0_5) else (usherref15_Small.j0 k (decide ((l0_1.length : Int) > 40)) a0_0 l0_1 a0_2 a0_3 a0_4 a0_5))))
theorem usherref15_Small.mono_l : ∀ k, (∀ y0 y1 y2 y3 y4 y5 y6, LeO (usherref15_Small.j0 k y0 y1 y2 y3 y4 y5 y6) (usherref15_Small.j0 (k + 1) y0 y1 y2 y3 y4 y5 y6)) ∧ (∀ y0 y1 y2 y3 y4 y5 y6, LeO (usherref15_Small.l0 k y0 y1 y2 y3 y4 y5 y6) (usherref15_Small.l0 (k + 1) y0 y1 y2 y3 y4 y5 y6))
  | 0 => ⟨fun _ _ _ _ _ _ _ r h => by simp [usherref15_Small.j0] at h, fun _ _ _ _ _ _ _ r h => by simp [usherref15_Small.l0] at h⟩
  | k + 1 => by
    obtain ⟨ih0, ih1⟩ := usherref15_Small.mono_l k
    refine ⟨?_, ?_⟩
    · intro y0 y1 y2 y3 y4 y5 y6
      unfold usherref15_Small.j0
      repeat' first
      | (with_reducible exact ih0 _ _ _ _ _ _ _)
      | (with_reducible exact ih1 _ _ _ _ _ _ _)
      | (with_reducible exact LeO.refl _)
      | (with_reducible exact LeO.none _)
      | (with_reducible refine LeO.ite ?_ ?_)
      | (with_reducible refine LeO.bind ?_ (fun _ => ?_))
      | exact ih0 _ _ _ _ _ _ _
      | exact ih1 _ _ _ _ _ _ _
      | exact LeO.none _
      | refine LeO.ite ?_ ?_
      | refine LeO.bind ?_ (fun _ => ?_)
    · intro y0 y1 y2 y3 y4 y5 y6
      unfold usherref15_Small.l0
      repeat' first
      | (with_reducible exact ih0 _ _ _ _ _ _ _)
      | (with_reducible exact ih1 _ _ _ _ _ _ _)
      | (with_reducible exact LeO.refl _)
      | (with_reducible exact LeO.none _)
      | (with_reducible refine LeO.ite ?_ ?_)
      | (with_reducible refine LeO.bind ?_ (fun _ => ?_))
      | exact ih0 _ _ _ _ _ _ _
      | exact ih1 _ _ _ _ _ _ _
      | exact LeO.none _
      | refine LeO.ite ?_ ?_
      | refine LeO.bind ?_ (fun _ => ?_)
theorem usherref15_Small.mono : ∀ a0 a1 a2 a3 a4 a5 k, LeO (usherref15_Small.f k a0 a1 a2 a3 a4 a5) (usherref15_Small.f (k + 1) a0 a1 a2 a3 a4 a5) := by
  intro a0 a1 a2 a3 a4 a5 k
  obtain ⟨ih0, ih1⟩ := usherref15_Small.mono_l k
  unfold usherref15_Small.f
  repeat' first
      | (with_reducible exact ih0 _ _ _ _ _ _ _)
      | (with_reducible exact ih1 _ _ _ _ _ _ _)
      | (with_reducible exact LeO.refl _)
      | (with_reducible exact LeO.none _)
      | (with_reducible refine LeO.ite ?_ ?_)
      | (with_reducible refine LeO.bind ?_ (fun _ => ?_))
      | exact ih0 _ _ _ _ _ _ _
      | exact ih1 _ _ _ _ _ _ _
      | exact LeO.none _
      | refine LeO.ite ?_ ?_
      | refine LeO.bind ?_ (fun _ => ?_)
set_option maxHeartbeats 8000000 in
set_option maxRecDepth 100000 in
theorem usherref15_Small.calls (k : Nat) (a0_0 : ByteArray) (A0_1 : Option Addr) (c0_1 : Nat) (l0_1 : List ByteArray) (a0_2 : ByteArray) (a0_3 : ByteArray) (a0_4 : ByteArray) (a0_5 : Int) (r : Bool) (w : World) (hr0_1 : Kd.C Kd.string w A0_1 l0_1.length l0_1) (hc0_1 : l0_1.length ≤ c0_1) (h : usherref15_Small.f k a0_0 l0_1 a0_2 a0_3 a0_4 a0_5 = some r) :
    Calls Try.prog 27 #[.agg #[.string a0_0, .slice A0_1 l0_1.length c0_1, .string a0_2, .string a0_3, .string a0_4, .int .i64 a0_5]] w fun e w' => e = .returned (.bool r) ∧ Below w.heap.size w w' := by
  have hu40 := Try.underlying40
  have HR0_1 := Aside0.mk hr0_1
  have HC0_1 := Aside0.mk hc0_1
  clear hr0_1 hc0_1
  have HB := Aside0.mk (Below.refl w.heap.size w)
  have H : (if (a0_0.size : Int) > 1000 then (usherref15_Small.j0 k true a0_0 l0_1 a0_2 a0_3 a0_4 a0_5) else (if (a0_2.size : Int) > 1000 then (usherref15_Small.j0 k true a0_0 l0_1 a0_2 a0_3 a0_4 a0_5) else (if (a0_3.size : Int) > 1000 then (usherref15_Small.j0 k true a0_0 l0_1 a0_2 a0_3 a0_4 a0_5) else (if (a0_4.size : Int) > 1000 then (usherref15_Small.j0 k true a0_0 l0_1 a0_2 a0_3 a0_4 a0_5) else (usherref15_Small.j0 k (decide ((l0_1.length : Int) > 40)) a0_0 l0_1 a0_2 a0_3 a0_4 a0_5))))) = some r := h
  clear h
  have HC2 := Aside0.mk H
  clear H
  go_enter Try.func27, Try.ntmps27
  go_upto_region 1 with (first | ((with_reducible refine gate_dst (N := 1) rfl ?_); (try (refine gate_guard (by rfl) ?_; dsimp only)); refine box_event ?hg (N := 1) ?hd (cs := #[.string a0_0, .slice A0_1 l0_1.length c0_1, .string a0_2, .string a0_3, .string a0_4, .int .i64 a0_5]) (t := 40) ?hr ?_; (case hd => rfl); (case hg => rfl); (case hr => first | (go_simp; done) | (go_simp; rfl)); intro gb105 hg w3 hbox hb; have n0_ := Aside0.mk (below_step (by repeat (first | (with_reducible first | exact HB.out | apply below_alloc | apply pw_below_drewN | apply below_drew1) | exact HB.out)) hb); have n1_ := Aside0.mk (hbox); have n2_ := Aside0.mk ((by rw [hg]; exact (below_size (by repeat (first | (with_reducible first | exact HB.out | apply below_alloc | apply pw_below_drewN | apply below_drew1) | exact HB.out))) : w.heap.size ≤ gb105)); have n3_ := Aside0.mk ((by rw [hg]; exact (below_size (by repeat (first | (with_reducible first | exact HB.out | apply below_alloc | apply pw_below_drewN | apply below_drew1) | exact HB.out))) : w.heap.size ≤ gb105)); clear HB; have HB := n0_; have BK105 := n1_; have GW105 := n2_; have GE105 := n3_; clear n0_ n1_ n2_ n3_; clear hb hbox hg))
  (try simp only [Act.put, List.setIfInBounds_toArray, List.set_cons_zero, List.set_cons_succ])
  go_cut [31] (fun v31 wc => ∃ (kq : Nat) (x31_1 : Bool), v31 = .bool x31_1 ∧ Aside0 (usherref15_Small.j0 kq x31_1 a0_0 l0_1 a0_2 a0_3 a0_4 a0_5 = some r) ∧ Aside0 (kq ≤ k) ∧ Aside0 (wc.heap[gb105]? = some (.cells #[.string a0_0, (.slice A0_1 l0_1.length c0_1), .string a0_2, .string a0_3, .string a0_4, .int .i64 a0_5] 40 (0, 0))) ∧ Aside0 (Below w.heap.size w wc))
  case first =>
    have H := HC2.out
    clear HC2
    by_cases c4 : (a0_0.size : Int) > 1000
    · rw [if_pos c4] at H
      have c4b0 : decide (1000 < (a0_0.size : Int)) = true := decide_eq_true c4
      have c4b1 : decide (1000 < a0_0.size) = true := decide_eq_true (by omega)
      clear c4
      (first | rw [c4b0] | (simp only [i64_w, i32_w]; rw [c4b0]) | skip)
      have H' := Aside0.mk H
      clear H
      have hcz5_0 : w3.cell? ⟨gb105, 0, none⟩ = some (.string a0_0) := (blk_cell BK105.out 0).trans rfl
      have hcz5_1 : w3.cell? ⟨gb105, 1, none⟩ = some (.slice A0_1 l0_1.length c0_1) := (blk_cell BK105.out 1).trans rfl
      have hcz5_2 : w3.cell? ⟨gb105, 2, none⟩ = some (.string a0_2) := (blk_cell BK105.out 2).trans rfl
      have hcz5_3 : w3.cell? ⟨gb105, 3, none⟩ = some (.string a0_3) := (blk_cell BK105.out 3).trans rfl
      have hcz5_4 : w3.cell? ⟨gb105, 4, none⟩ = some (.string a0_4) := (blk_cell BK105.out 4).trans rfl
      have hcz5_5 : w3.cell? ⟨gb105, 5, none⟩ = some (.int .i64 a0_5) := (blk_cell BK105.out 5).trans rfl
      have hfz5_0 := blk_frozen BK105.out 0
      have hfz5_1 := blk_frozen BK105.out 1
      have hfz5_2 := blk_frozen BK105.out 2
      have hfz5_3 := blk_frozen BK105.out 3
      have hfz5_4 := blk_frozen BK105.out 4
      have hfz5_5 := blk_frozen BK105.out 5
      go_wp2
      go_meet
      case rel => exact ⟨_, (true), (by first | rfl | (simp; done) | (simp [*]; done)), H', ⟨by first | omega | exact Nat.le_refl _⟩, ⟨by (with_reducible repeat (first | refine blk_drewN ?_ _ | refine blk_drew ?_ | refine blk_alloc ?_ _)); exact BK105.out⟩, ⟨by repeat (first | (with_reducible first | exact HB.out | apply below_alloc | apply pw_below_drewN | apply below_drew1 | refine below_set ?_ GE105.out) | exact HB.out)⟩⟩
    · rw [if_neg c4] at H
      have c4b0 : decide (1000 < (a0_0.size : Int)) = false := decide_eq_false c4
      have c4b1 : decide (1000 < a0_0.size) = false := decide_eq_false (by omega)
      clear c4
      (first | rw [c4b0] | (simp only [i64_w, i32_w]; rw [c4b0]) | skip)
      by_cases c6 : (a0_2.size : Int) > 1000
      · rw [if_pos c6] at H
        have c6b0 : decide (1000 < (a0_2.size : Int)) = true := decide_eq_true c6
        have c6b1 : decide (1000 < a0_2.size) = true := decide_eq_true (by omega)
        clear c6
        have H' := Aside0.mk H
        clear H
        have hcz7_0 : w3.cell? ⟨gb105, 0, none⟩ = some (.string a0_0) := (blk_cell BK105.out 0).trans rfl
        have hcz7_1 : w3.cell? ⟨gb105, 1, none⟩ = some (.slice A0_1 l0_1.length c0_1) := (blk_cell BK105.out 1).trans rfl
        have hcz7_2 : w3.cell? ⟨gb105, 2, none⟩ = some (.string a0_2) := (blk_cell BK105.out 2).trans rfl
        have hcz7_3 : w3.cell? ⟨gb105, 3, none⟩ = some (.string a0_3) := (blk_cell BK105.out 3).trans rfl
        have hcz7_4 : w3.cell? ⟨gb105, 4, none⟩ = some (.string a0_4) := (blk_cell BK105.out 4).trans rfl
        have hcz7_5 : w3.cell? ⟨gb105, 5, none⟩ = some (.int .i64 a0_5) := (blk_cell BK105.out 5).trans rfl
        have hfz7_0 := blk_frozen BK105.out 0
        have hfz7_1 := blk_frozen BK105.out 1
        have hfz7_2 := blk_frozen BK105.out 2
        have hfz7_3 := blk_frozen BK105.out 3
        have hfz7_4 := blk_frozen BK105.out 4
        have hfz7_5 := blk_frozen BK105.out 5
        go_wp2
        go_meet
        case rel => exact ⟨_, (true), (by first | rfl | (simp; done) | (simp [*]; done)), H', ⟨by first | omega | exact Nat.le_refl _⟩, ⟨by (with_reducible repeat (first | refine blk_drewN ?_ _ | refine blk_drew ?_ | refine blk_alloc ?_ _)); exact BK105.out⟩, ⟨by repeat (first | (with_reducible first | exact HB.out | apply below_alloc | apply pw_below_drewN | apply below_drew1 | refine below_set ?_ GE105.out) | exact HB.out)⟩⟩
      · rw [if_neg c6] at H
        have c6b0 : decide (1000 < (a0_2.size : Int)) = false := decide_eq_false c6
        have c6b1 : decide (1000 < a0_2.size) = false := decide_eq_false (by omega)
        clear c6
        by_cases c8 : (a0_3.size : Int) > 1000
        · rw [if_pos c8] at H
          have c8b0 : decide (1000 < (a0_3.size : Int)) = true := decide_eq_true c8
          have c8b1 : decide (1000 < a0_3.size) = true := decide_eq_true (by omega)
          clear c8
          have H' := Aside0.mk H
          clear H
          have hcz9_0 : w3.cell? ⟨gb105, 0, none⟩ = some (.string a0_0) := (blk_cell BK105.out 0).trans rfl
          have hcz9_1 : w3.cell? ⟨gb105, 1, none⟩ = some (.slice A0_1 l0_1.length c0_1) := (blk_cell BK105.out 1).trans rfl
          have hcz9_2 : w3.cell? ⟨gb105, 2, none⟩ = some (.string a0_2) := (blk_cell BK105.out 2).trans rfl
          have hcz9_3 : w3.cell? ⟨gb105, 3, none⟩ = some (.string a0_3) := (blk_cell BK105.out 3).trans rfl
          have hcz9_4 : w3.cell? ⟨gb105, 4, none⟩ = some (.string a0_4) := (blk_cell BK105.out 4).trans rfl
          have hcz9_5 : w3.cell? ⟨gb105, 5, none⟩ = some (.int .i64 a0_5) := (blk_cell BK105.out 5).trans rfl
          have hfz9_0 := blk_frozen BK105.out 0
          have hfz9_1 := blk_frozen BK105.out 1
          have hfz9_2 := blk_frozen BK105.out 2
          have hfz9_3 := blk_frozen BK105.out 3
          have hfz9_4 := blk_frozen BK105.out 4
          have hfz9_5 := blk_frozen BK105.out 5
          go_wp2
          go_meet
          case rel => exact ⟨_, (true), (by first | rfl | (simp; done) | (simp [*]; done)), H', ⟨by first | omega | exact Nat.le_refl _⟩, ⟨by (with_reducible repeat (first | refine blk_drewN ?_ _ | refine blk_drew ?_ | refine blk_alloc ?_ _)); exact BK105.out⟩, ⟨by repeat (first | (with_reducible first | exact HB.out | apply below_alloc | apply pw_below_drewN | apply below_drew1 | refine below_set ?_ GE105.out) | exact HB.out)⟩⟩
        · rw [if_neg c8] at H
          have c8b0 : decide (1000 < (a0_3.size : Int)) = false := decide_eq_false c8
          have c8b1 : decide (1000 < a0_3.size) = false := decide_eq_false (by omega)
          clear c8
          by_cases c10 : (a0_4.size : Int) > 1000
          · rw [if_pos c10] at H
            have c10b0 : decide (1000 < (a0_4.size : Int)) = true := decide_eq_true c10
            have c10b1 : decide (1000 < a0_4.size) = true := decide_eq_true (by omega)
            clear c10
            have H' := Aside0.mk H
            clear H
            have hcz11_0 : w3.cell? ⟨gb105, 0, none⟩ = some (.string a0_0) := (blk_cell BK105.out 0).trans rfl
            have hcz11_1 : w3.cell? ⟨gb105, 1, none⟩ = some (.slice A0_1 l0_1.length c0_1) := (blk_cell BK105.out 1).trans rfl
            have hcz11_2 : w3.cell? ⟨gb105, 2, none⟩ = some (.string a0_2) := (blk_cell BK105.out 2).trans rfl
            have hcz11_3 : w3.cell? ⟨gb105, 3, none⟩ = some (.string a0_3) := (blk_cell BK105.out 3).trans rfl
            have hcz11_4 : w3.cell? ⟨gb105, 4, none⟩ = some (.string a0_4) := (blk_cell BK105.out 4).trans rfl
            have hcz11_5 : w3.cell? ⟨gb105, 5, none⟩ = some (.int .i64 a0_5) := (blk_cell BK105.out 5).trans rfl
            have hfz11_0 := blk_frozen BK105.out 0
            have hfz11_1 := blk_frozen BK105.out 1
            have hfz11_2 := blk_frozen BK105.out 2
            have hfz11_3 := blk_frozen BK105.out 3
            have hfz11_4 := blk_frozen BK105.out 4
            have hfz11_5 := blk_frozen BK105.out 5
            go_wp2
            go_meet
            case rel => exact ⟨_, (true), (by first | rfl | (simp; done) | (simp [*]; done)), H', ⟨by first | omega | exact Nat.le_refl _⟩, ⟨by (with_reducible repeat (first | refine blk_drewN ?_ _ | refine blk_drew ?_ | refine blk_alloc ?_ _)); exact BK105.out⟩, ⟨by repeat (first | (with_reducible first | exact HB.out | apply below_alloc | apply pw_below_drewN | apply below_drew1 | refine below_set ?_ GE105.out) | exact HB.out)⟩⟩
          · rw [if_neg c10] at H
            have c10b0 : decide (1000 < (a0_4.size : Int)) = false := decide_eq_false c10
            have c10b1 : decide (1000 < a0_4.size) = false := decide_eq_false (by omega)
            clear c10
            have H' := Aside0.mk H
            clear H
            have hcz12_0 : w3.cell? ⟨gb105, 0, none⟩ = some (.string a0_0) := (blk_cell BK105.out 0).trans rfl
            have hcz12_1 : w3.cell? ⟨gb105, 1, none⟩ = some (.slice A0_1 l0_1.length c0_1) := (blk_cell BK105.out 1).trans rfl
            have hcz12_2 : w3.cell? ⟨gb105, 2, none⟩ = some (.string a0_2) := (blk_cell BK105.out 2).trans rfl
            have hcz12_3 : w3.cell? ⟨gb105, 3, none⟩ = some (.string a0_3) := (blk_cell BK105.out 3).trans rfl
            have hcz12_4 : w3.cell? ⟨gb105, 4, none⟩ = some (.string a0_4) := (blk_cell BK105.out 4).trans rfl
            have hcz12_5 : w3.cell? ⟨gb105, 5, none⟩ = some (.int .i64 a0_5) := (blk_cell BK105.out 5).trans rfl
            have hfz12_0 := blk_frozen BK105.out 0
            have hfz12_1 := blk_frozen BK105.out 1
            have hfz12_2 := blk_frozen BK105.out 2
            have hfz12_3 := blk_frozen BK105.out 3
            have hfz12_4 := blk_frozen BK105.out 4
            have hfz12_5 := blk_frozen BK105.out 5
            go_wp2
            go_meet
            case rel => exact ⟨_, (decide ((l0_1.length : Int) > 40)), (by first | rfl | (simp; done) | (simp [*]; done)), H', ⟨by first | omega | exact Nat.le_refl _⟩, ⟨by (with_reducible repeat (first | refine blk_drewN ?_ _ | refine blk_drew ?_ | refine blk_alloc ?_ _)); exact BK105.out⟩, ⟨by repeat (first | (with_reducible first | exact HB.out | apply below_alloc | apply pw_below_drewN | apply below_drew1 | refine below_set ?_ GE105.out) | exact HB.out)⟩⟩
  case rest =>
    clear HC2
    try clear c1
    try clear c2
    try clear p2
    try clear c4
    try clear c4b0
    try clear c4b1
    try clear c6
    try clear c6b0
    try clear c6b1
    try clear c8
    try clear c8b0
    try clear c8b1
    try clear c10
    try clear c10b0
    try clear c10b1
    try clear hcz11_0
    try clear hcz11_1
    try clear hcz11_2
    try clear hcz11_3
    try clear hcz11_4
    try clear hcz11_5
    try clear hcz12_0
    try clear hcz12_1
    try clear hcz12_2
    try clear hcz12_3
    try clear hcz12_4
    try clear hcz12_5
    try clear hcz5_0
    try clear hcz5_1
    try clear hcz5_2
    try clear hcz5_3
    try clear hcz5_4
    try clear hcz5_5
    try clear hcz7_0
    try clear hcz7_1
    try clear hcz7_2
    try clear hcz7_3
    try clear hcz7_4
    try clear hcz7_5
    try clear hcz9_0
    try clear hcz9_1
    try clear hcz9_2
    try clear hcz9_3
    try clear hcz9_4
    try clear hcz9_5
    try clear hfz11_0
    try clear hfz11_1
    try clear hfz11_2
    try clear hfz11_3
    try clear hfz11_4
    try clear hfz11_5
    try clear hfz12_0
    try clear hfz12_1
    try clear hfz12_2
    try clear hfz12_3
    try clear hfz12_4
    try clear hfz12_5
    try clear hfz5_0
    try clear hfz5_1
    try clear hfz5_2
    try clear hfz5_3
    try clear hfz5_4
    try clear hfz5_5
    try clear hfz7_0
    try clear hfz7_1
    try clear hfz7_2
    try clear hfz7_3
    try clear hfz7_4
    try clear hfz7_5
    try clear hfz9_0
    try clear hfz9_1
    try clear hfz9_2
    try clear hfz9_3
    try clear hfz9_4
    try clear hfz9_5
    obtain ⟨kq, x31_1, rfl, HA, HJ1, BK105, HB⟩ := hcut
    cases kq with
    | zero => exact absurd HA.out (by simp [usherref15_Small.j0])
    | succ kj1 =>
      have H := HA.out
      clear HA
      simp only [usherref15_Small.j0] at H
      by_cases c13 : x31_1 = true
      · subst c13
        have H1 : (some false) = some r := by rw [if_pos rfl] at H; exact H
        clear H
        have H := H1
        clear H1
        obtain rfl := Option.some.inj H
        go_wp2
        go_ret
        exact ⟨by first | rfl | (simp [errW_none, errW_some] <;> rfl) | (simp [*, errW_none, errW_some] <;> rfl), by repeat (first | (with_reducible first | exact HB.out | apply below_alloc | apply pw_below_drewN | apply below_drew1 | refine below_set ?_ GE105.out) | exact HB.out)⟩
      · replace c13 := Bool.eq_false_iff.mpr c13
        subst c13
        have H1 : (usherref15_Small.l0 kj1 0 a0_0 l0_1 a0_2 a0_3 a0_4 a0_5) = some r := by rw [if_neg (show ¬ (false = true) by decide)] at H; exact H
        clear H
        have H := H1
        clear H1
        have H' := Aside0.mk H
        clear H
        go_wp2
        go_loopg [3] kj1 (fun kq v3 w' => ∃ (x3_2 : Int), v3 = .int .i64 x3_2 ∧ Aside0 (usherref15_Small.l0 kq x3_2 a0_0 l0_1 a0_2 a0_3 a0_4 a0_5 = some r) ∧ Aside0 (kq ≤ kj1) ∧ Aside0 (w'.heap[gb105]? = some (.cells #[.string a0_0, (.slice A0_1 l0_1.length c0_1), .string a0_2, .string a0_3, .string a0_4, .int .i64 a0_5] 40 (0, 0))) ∧ Aside0 (Below w.heap.size w w'))
        case atStart => exact ⟨(0), (by first | rfl | (simp; done) | (simp [*]; done)), H', ⟨Nat.le_refl _⟩, ⟨by (with_reducible repeat (first | refine blk_drewN ?_ _ | refine blk_drew ?_ | refine blk_alloc ?_ _)); exact BK105.out⟩, ⟨by repeat (first | (with_reducible first | exact HB.out | apply below_alloc | apply pw_below_drewN | apply below_drew1 | refine below_set ?_ GE105.out) | exact HB.out)⟩⟩
        case round =>
          clear H'
          try clear c1
          try clear c2
          try clear p2
          try clear c4
          try clear c4b0
          try clear c4b1
          try clear c6
          try clear c6b0
          try clear c6b1
          try clear c8
          try clear c8b0
          try clear c8b1
          try clear c10
          try clear c10b0
          try clear c10b1
          try clear c13
          try clear hcz11_0
          try clear hcz11_1
          try clear hcz11_2
          try clear hcz11_3
          try clear hcz11_4
          try clear hcz11_5
          try clear hcz12_0
          try clear hcz12_1
          try clear hcz12_2
          try clear hcz12_3
          try clear hcz12_4
          try clear hcz12_5
          try clear hcz5_0
          try clear hcz5_1
          try clear hcz5_2
          try clear hcz5_3
          try clear hcz5_4
          try clear hcz5_5
          try clear hcz7_0
          try clear hcz7_1
          try clear hcz7_2
          try clear hcz7_3
          try clear hcz7_4
          try clear hcz7_5
          try clear hcz9_0
          try clear hcz9_1
          try clear hcz9_2
          try clear hcz9_3
          try clear hcz9_4
          try clear hcz9_5
          try clear hfz11_0
          try clear hfz11_1
          try clear hfz11_2
          try clear hfz11_3
          try clear hfz11_4
          try clear hfz11_5
          try clear hfz12_0
          try clear hfz12_1
          try clear hfz12_2
          try clear hfz12_3
          try clear hfz12_4
          try clear hfz12_5
          try clear hfz5_0
          try clear hfz5_1
          try clear hfz5_2
          try clear hfz5_3
          try clear hfz5_4
          try clear hfz5_5
          try clear hfz7_0
          try clear hfz7_1
          try clear hfz7_2
          try clear hfz7_3
          try clear hfz7_4
          try clear hfz7_5
          try clear hfz9_0
          try clear hfz9_1
          try clear hfz9_2
          try clear hfz9_3
          try clear hfz9_4
          try clear hfz9_5
          try clear p2
          obtain ⟨x3_2, rfl, HA, HK2, BK105, HB⟩ := hrel
          cases gk with
          | zero => exact absurd HA.out (by simp [usherref15_Small.l0])
          | succ k2 =>
            have H := HA.out
            clear HA
            simp only [usherref15_Small.l0] at H
            by_cases c14 : x3_2 < (l0_1.length : Int)
            · rw [if_pos c14] at H
              have c14b0 : decide (x3_2 < (l0_1.length : Int)) = true := decide_eq_true c14
              clear c14
              by_cases c15 : 0 ≤ x3_2
              · rw [if_pos c15] at H
                have c15b0 : decide (0 ≤ x3_2) = true := decide_eq_true c15
                clear c15
                by_cases c16 : ((rdOf ByteArray.empty l0_1 x3_2).size : Int) > 1000
                · rw [if_pos c16] at H
                  have c16b0 : decide (1000 < ((rdOf ByteArray.empty l0_1 x3_2).size : Int)) = true := decide_eq_true c16
                  have c16b1 : decide (1000 < (rdOf ByteArray.empty l0_1 x3_2).size) = true := decide_eq_true (by omega)
                  clear c16
                  obtain rfl := Option.some.inj H
                  have hcz17_0 : wr.cell? ⟨gb105, 0, none⟩ = some (.string a0_0) := (blk_cell BK105.out 0).trans rfl
                  have hcz17_1 : wr.cell? ⟨gb105, 1, none⟩ = some (.slice A0_1 l0_1.length c0_1) := (blk_cell BK105.out 1).trans rfl
                  have hcz17_2 : wr.cell? ⟨gb105, 2, none⟩ = some (.string a0_2) := (blk_cell BK105.out 2).trans rfl
                  have hcz17_3 : wr.cell? ⟨gb105, 3, none⟩ = some (.string a0_3) := (blk_cell BK105.out 3).trans rfl
                  have hcz17_4 : wr.cell? ⟨gb105, 4, none⟩ = some (.string a0_4) := (blk_cell BK105.out 4).trans rfl
                  have hcz17_5 : wr.cell? ⟨gb105, 5, none⟩ = some (.int .i64 a0_5) := (blk_cell BK105.out 5).trans rfl
                  have hfz17_0 := blk_frozen BK105.out 0
                  have hfz17_1 := blk_frozen BK105.out 1
                  have hfz17_2 := blk_frozen BK105.out 2
                  have hfz17_3 := blk_frozen BK105.out 3
                  have hfz17_4 := blk_frozen BK105.out 4
                  have hfz17_5 := blk_frozen BK105.out 5
                  have p106 : 0 ≤ (x3_2 : Int) := of_decide_eq_true (by first | (with_reducible assumption) | assumption)
                  have q106 : x3_2 < (l0_1.length : Int) := of_decide_eq_true (by first | (with_reducible assumption) | assumption)
                  obtain ⟨ad106, e106, hx106_0⟩ := Kd.at_string HR0_1.out x3_2 p106 q106
                  cases e106
                  replace hx106_0 := (HB.out.cell (World.block_lt_of_cell? w _ hx106_0)).trans hx106_0
                  replace p106 := eq_true p106
                  replace q106 := eq_true q106
                  go_wp2
                  go_ret
                  exact ⟨by first | rfl | (simp [errW_none, errW_some] <;> rfl) | (simp [*, errW_none, errW_some] <;> rfl), by repeat (first | (with_reducible first | exact HB.out | apply below_alloc | apply pw_below_drewN | apply below_drew1 | refine below_set ?_ GE105.out) | exact HB.out)⟩
                · rw [if_neg c16] at H
                  have c16b0 : decide (1000 < ((rdOf ByteArray.empty l0_1 x3_2).size : Int)) = false := decide_eq_false c16
                  have c16b1 : decide (1000 < (rdOf ByteArray.empty l0_1 x3_2).size) = false := decide_eq_false (by omega)
                  clear c16
                  have H' := Aside0.mk H
                  clear H
                  have hcz18_0 : wr.cell? ⟨gb105, 0, none⟩ = some (.string a0_0) := (blk_cell BK105.out 0).trans rfl
                  have hcz18_1 : wr.cell? ⟨gb105, 1, none⟩ = some (.slice A0_1 l0_1.length c0_1) := (blk_cell BK105.out 1).trans rfl
                  have hcz18_2 : wr.cell? ⟨gb105, 2, none⟩ = some (.string a0_2) := (blk_cell BK105.out 2).trans rfl
                  have hcz18_3 : wr.cell? ⟨gb105, 3, none⟩ = some (.string a0_3) := (blk_cell BK105.out 3).trans rfl
                  have hcz18_4 : wr.cell? ⟨gb105, 4, none⟩ = some (.string a0_4) := (blk_cell BK105.out 4).trans rfl
                  have hcz18_5 : wr.cell? ⟨gb105, 5, none⟩ = some (.int .i64 a0_5) := (blk_cell BK105.out 5).trans rfl
                  have hfz18_0 := blk_frozen BK105.out 0
                  have hfz18_1 := blk_frozen BK105.out 1
                  have hfz18_2 := blk_frozen BK105.out 2
                  have hfz18_3 := blk_frozen BK105.out 3
                  have hfz18_4 := blk_frozen BK105.out 4
                  have hfz18_5 := blk_frozen BK105.out 5
                  have p106 : 0 ≤ (x3_2 : Int) := of_decide_eq_true (by first | (with_reducible assumption) | assumption)
                  have q106 : x3_2 < (l0_1.length : Int) := of_decide_eq_true (by first | (with_reducible assumption) | assumption)
                  obtain ⟨ad106, e106, hx106_0⟩ := Kd.at_string HR0_1.out x3_2 p106 q106
                  cases e106
                  replace hx106_0 := (HB.out.cell (World.block_lt_of_cell? w _ hx106_0)).trans hx106_0
                  replace p106 := eq_true p106
                  replace q106 := eq_true q106
                  go_wp2
                  go_roundg k2
                  case measure => have := HJ1.out; have := HK2.out; omega
                  case rel => exact ⟨(wrap64 (x3_2 + 1)), (by first | rfl | (simp; done) | (simp [*]; done)), H', ⟨by have := HJ1.out; have := HK2.out; omega⟩, ⟨by (with_reducible repeat (first | refine blk_drewN ?_ _ | refine blk_drew ?_ | refine blk_alloc ?_ _)); exact BK105.out⟩, ⟨by repeat (first | (with_reducible first | exact HB.out | apply below_alloc | apply pw_below_drewN | apply below_drew1 | refine below_set ?_ GE105.out) | exact HB.out)⟩⟩
              · rw [if_neg c15] at H
                exact absurd H (by simp)
            · rw [if_neg c14] at H
              have c14b0 : decide (x3_2 < (l0_1.length : Int)) = false := decide_eq_false c14
              clear c14
              obtain rfl := Option.some.inj H
              have hcz19_0 : wr.cell? ⟨gb105, 0, none⟩ = some (.string a0_0) := (blk_cell BK105.out 0).trans rfl
              have hcz19_1 : wr.cell? ⟨gb105, 1, none⟩ = some (.slice A0_1 l0_1.length c0_1) := (blk_cell BK105.out 1).trans rfl
              have hcz19_2 : wr.cell? ⟨gb105, 2, none⟩ = some (.string a0_2) := (blk_cell BK105.out 2).trans rfl
              have hcz19_3 : wr.cell? ⟨gb105, 3, none⟩ = some (.string a0_3) := (blk_cell BK105.out 3).trans rfl
              have hcz19_4 : wr.cell? ⟨gb105, 4, none⟩ = some (.string a0_4) := (blk_cell BK105.out 4).trans rfl
              have hcz19_5 : wr.cell? ⟨gb105, 5, none⟩ = some (.int .i64 a0_5) := (blk_cell BK105.out 5).trans rfl
              have hfz19_0 := blk_frozen BK105.out 0
              have hfz19_1 := blk_frozen BK105.out 1
              have hfz19_2 := blk_frozen BK105.out 2
              have hfz19_3 := blk_frozen BK105.out 3
              have hfz19_4 := blk_frozen BK105.out 4
              have hfz19_5 := blk_frozen BK105.out 5
              go_wp2
              go_ret
              exact ⟨by first | rfl | (simp [errW_none, errW_some] <;> rfl) | (simp [*, errW_none, errW_some] <;> rfl), by repeat (first | (with_reducible first | exact HB.out | apply below_alloc | apply pw_below_drewN | apply below_drew1 | refine below_set ?_ GE105.out) | exact HB.out)⟩

end Go.Proofs.Yteiejbkohnokaaa.PWidthAll
