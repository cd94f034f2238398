/- The walk of the law WidthMore: it returns true for all numbers and every request; below its own memory the world stays as it was. -/
import Derived.Test.YteiejbkohnokaaaSeatsIs
import Derived.Test.YteiejbkohnokaaaOpenReq
namespace Go.Proofs.Yteiejbkohnokaaa.WalkWidthMore
open Go.RowKit Go.Proofs.Yteiejbkohnokaaa.PWidthAll Go.Proofs.YteiejbkohnokaaaW.PrintWords Go.Proofs.YteiejbkohnokaaaW.PrintLast Go.Proofs.YteiejbkohnokaaaW.PrintMore Go.Proofs.Yteiejbkohnokaaa.WidthMath Go.Proofs.Yteiejbkohnokaaa.SeatsIs
attribute [local go_sem] max2_int min2_int max_two min_two max_three min_three max_four min_four   -- for this text's walks alone

/-- The seats of a request. -/
def SW (a b : Int) (v s : ByteArray) (o : Int) : Int := seatsI (cls v.toList) (perOf a) (mostOf b) (objOf o) (spOf s)

theorem seats_any (a b : Int) (u : ByteArray) (A : Option Addr) (c : Nat) (g : List ByteArray) (v r s : ByteArray) (o : Int) (ho : o ≤ 9223372036854775807) (w : World) (hC : Kd.C Kd.string w A g.length g) (hc : g.length ≤ c) :
    Calls Try.prog 28 #[.int .i64 a, .int .i64 b, .agg #[.string u, .slice A g.length c, .string v, .string r, .string s, .int .i64 o]] w fun e w' => e = .returned (.int .i64 (SW a b v s o)) ∧ Below w.heap.size w w' :=
  width_Seats.calls 1 a b u A c g v r s o _ w hC hc (seats_is 0 a b u g v r s o ho)
theorem awake_any (w : World) : Calls Try.prog 26 #[] w fun e w' => e = .returned (.bool true) ∧ Below w.heap.size w w' :=
  usherlaw17_awake.calls 1 true w (awake_is 0)

theorem bcell {W w1 : World} (hb : Below W.heap.size W w1) : (∀ b o, b < W.heap.size → w1.cell? ⟨b, o, none⟩ = W.cell? ⟨b, o, none⟩) ∧ (∀ b o, b < W.heap.size → w1.frozen? ⟨b, o, none⟩ = W.frozen? ⟨b, o, none⟩) :=
  ⟨fun b o h => hb.cell (p := ⟨b, o, none⟩) h, fun b o h => hb.frozen (p := ⟨b, o, none⟩) h⟩

theorem cells6 {w : World} {b : Nat} {v0 v1 v2 v3 v4 v5 : Value} {T : TypeId} (h : w.heap[b]? = some (.cells #[v0, v1, v2, v3, v4, v5] T (0, 0))) :
    w.cell? ⟨b, 0, none⟩ = some v0 ∧ w.cell? ⟨b, 1, none⟩ = some v1 ∧ w.cell? ⟨b, 2, none⟩ = some v2 ∧ w.cell? ⟨b, 3, none⟩ = some v3 ∧ w.cell? ⟨b, 4, none⟩ = some v4 ∧ w.cell? ⟨b, 5, none⟩ = some v5 :=
  ⟨blk_cell h 0, blk_cell h 1, blk_cell h 2, blk_cell h 3, blk_cell h 4, blk_cell h 5⟩
set_option maxHeartbeats 1000000 in
theorem walk (a b x y : Int) (u : ByteArray) (A : Option Addr) (c : Nat) (g : List ByteArray) (v r s : ByteArray) (o m1 m2 m3 n n1 n2 n3 : Int) (w : World) (hC : Aside0 (Kd.C Kd.string w A g.length g)) 
    (e1 : (if o < y then y else o) = m1) (e2 : (if x < a then x else a) = m2) (e3 : (if b < x then x else b) = m3)
    (h0 : Aside0 (∀ w, Kd.C Kd.string w A g.length g → Calls Try.prog 28 #[.int .i64 a, .int .i64 b, .agg #[.string u, .slice A g.length c, .string v, .string r, .string s, .int .i64 o]] w fun e w' => e = .returned (.int .i64 n) ∧ Below w.heap.size w w'))
    (h1 : Aside0 (∀ w, Kd.C Kd.string w A g.length g → Calls Try.prog 28 #[.int .i64 a, .int .i64 b, .agg #[.string u, .slice A g.length c, .string v, .string r, .string s, .int .i64 m1]] w fun e w' => e = .returned (.int .i64 n1) ∧ Below w.heap.size w w'))
    (h2 : Aside0 (∀ w, Kd.C Kd.string w A g.length g → Calls Try.prog 28 #[.int .i64 m2, .int .i64 b, .agg #[.string u, .slice A g.length c, .string v, .string r, .string s, .int .i64 o]] w fun e w' => e = .returned (.int .i64 n2) ∧ Below w.heap.size w w'))
    (h3 : Aside0 (∀ w, Kd.C Kd.string w A g.length g → Calls Try.prog 28 #[.int .i64 a, .int .i64 m3, .agg #[.string u, .slice A g.length c, .string v, .string r, .string s, .int .i64 o]] w fun e w' => e = .returned (.int .i64 n3) ∧ Below w.heap.size w w'))
    (t1 : decide (n < 1) = false) (t2 : decide (16 < n) = false) (t3 : decide (0 < b) = false ∨ (decide (0 < b) = true ∧ decide (b < n) = false)) (t4 : decide (n ≤ n1) = true) (t5 : decide (n ≤ n2) = true) (t6 : decide (n ≤ n3) = true) :
    Calls Try.prog 12 #[.int .i64 a, .int .i64 b, .int .i64 x, .int .i64 y, .agg #[.string u, .slice A g.length c, .string v, .string r, .string s, .int .i64 o]] w fun e w' => e = .returned (.bool true) ∧ Below w.heap.size w w' := by
  rcases t3 with t3 | ⟨t3, t3'⟩
  all_goals
    go_enter Try.func12, Try.ntmps12
    go_wp2_with fail
    refine (awake_any _).mono ?_
    rintro e w1 ⟨rfl, hb1⟩
    have HC := Aside0.mk (Kd.C_below (Kd.C_alloc hC.out _) hb1)
    have BK := Aside0.mk (blk_below (blk_new w _) hb1)
    have HB := Aside0.mk (below_step (below_alloc (Below.refl _ _) _) hb1)
    clear hb1
    obtain ⟨c10, c11, c12, c13, c14, c15⟩ := cells6 BK.out
    go_wp2_with fail
    refine (h0.out _ HC.out).mono ?_
    rintro e w2 ⟨rfl, hb2⟩
    replace HC := Aside0.mk (Kd.C_below HC.out hb2)
    replace BK := Aside0.mk (blk_below BK.out hb2)
    replace HB := Aside0.mk (below_step HB.out hb2)
    clear c10 c11 c12 c13 c14 c15 hb2
    obtain ⟨c20, c21, c22, c23, c24, c25⟩ := cells6 BK.out
    have hs2 := blk_lt BK.out
    go_wp2_with fail
    refine (h1.out _ (Kd.C_alloc HC.out _)).mono ?_
    rintro e w3 ⟨rfl, hb3⟩
    replace HC := Aside0.mk (Kd.C_below (Kd.C_alloc HC.out _) hb3)
    replace BK := Aside0.mk (blk_below (blk_alloc BK.out _) hb3)
    replace HB := Aside0.mk (below_step (below_alloc HB.out _) hb3)
    clear c20 c21 c22 c23 c24 c25 hb3 hs2
    obtain ⟨c30, c31, c32, c33, c34, c35⟩ := cells6 BK.out
    go_wp2_with fail
    refine (h2.out _ HC.out).mono ?_
    rintro e w4 ⟨rfl, hb4⟩
    replace HC := Aside0.mk (Kd.C_below HC.out hb4)
    replace BK := Aside0.mk (blk_below BK.out hb4)
    replace HB := Aside0.mk (below_step HB.out hb4)
    clear c30 c31 c32 c33 c34 c35 hb4
    obtain ⟨c40, c41, c42, c43, c44, c45⟩ := cells6 BK.out
    go_wp2_with fail
    refine (h3.out _ HC.out).mono ?_
    rintro e w5 ⟨rfl, hb5⟩
    replace HB := Aside0.mk (below_step HB.out hb5)
    clear c40 c41 c42 c43 c44 c45 hb5
    go_wp2_with fail
    go_ret
    exact ⟨rfl, HB.out⟩

theorem mono_of {P P' M M' O O' : Int} (c : Nat) (sp : Bool) (hP : 1 ≤ P') (h1 : P' ≤ P) (_hM : 1 ≤ M) (h2 : M ≤ M') (h3 : O ≤ O') : seatsI c P M O sp ≤ seatsI c P' M' O' sp := by
  have u1 := uI_mono (P := P) (by omega) sp h3
  have u2 := uI_anti (x := O') hP sp h1
  have g : ∀ {z z' : Int}, z ≤ z' → mn z M ≤ mn z' M' := by intro z z' h; unfold mn; split <;> split <;> omega
  have k : ∀ {z z' : Int}, z ≤ z' → mx z 1 ≤ mx z' 1 := by intro z z' h; unfold mx; split <;> split <;> omega
  unfold seatsI
  split
  · exact g (by have := g (k (show uI P sp O ≤ uI P' sp O' by omega)); omega)
  split
  · exact g (g (k (by omega)))
  split
  · refine g ?_
    split <;> split <;> omega
  · exact g (by omega)

theorem law (a b x y : Int) (u : ByteArray) (A : Option Addr) (c : Nat) (g : List ByteArray) (v r s : ByteArray) (o : Int) (w : World) (hC : Kd.C Kd.string w A g.length g) (hc : g.length ≤ c)
    (ho : o ≤ 9223372036854775807) (hy : y ≤ 9223372036854775807) :
    Calls Try.prog 12 #[.int .i64 a, .int .i64 b, .int .i64 x, .int .i64 y, .agg #[.string u, .slice A g.length c, .string v, .string r, .string s, .int .i64 o]] w fun e w' => e = .returned (.bool true) ∧ Below w.heap.size w w' := by
  have hM := most_range b
  have hn := seatsI_range (O := objOf o) (cls v.toList) (P := perOf a) (spOf s) hM.1
  have hm1 : o ≤ mx o y ∧ mx o y ≤ 9223372036854775807 := by unfold mx; split <;> omega
  have nb : 0 < b → SW a b v s o ≤ b := by
    intro h
    have : mostOf b ≤ b := by unfold mostOf mn mx; split <;> split <;> omega
    have := hn.2
    show seatsI _ _ _ _ _ ≤ b
    omega
  refine walk a b x y u A c g v r s o (mx o y) (mn a x) (mx b x) (SW a b v s o) (SW a b v s (mx o y)) (SW (mn a x) b v s o) (SW a (mx b x) v s o) w ⟨hC⟩ rfl rfl rfl
    ⟨fun w h => seats_any a b u A c g v r s o ho w h hc⟩ ⟨fun w h => seats_any a b u A c g v r s _ hm1.2 w h hc⟩ ⟨fun w h => seats_any _ b u A c g v r s o ho w h hc⟩ ⟨fun w h => seats_any a _ u A c g v r s o ho w h hc⟩
    (decide_eq_false (by have := hn.1; show ¬ seatsI _ _ _ _ _ < 1; omega)) (decide_eq_false (by have := hn.2; show ¬ 16 < seatsI _ _ _ _ _; omega)) ?_
    (decide_eq_true (mono_of _ _ (per_pos a) (Int.le_refl _) hM.1 (Int.le_refl _) (by unfold objOf mx; split <;> split <;> (try split) <;> omega)))
    (decide_eq_true (mono_of _ _ (per_pos _) (by unfold perOf mx mn; split <;> split <;> (try split) <;> omega) hM.1 (Int.le_refl _) (Int.le_refl _)))
    (decide_eq_true (mono_of _ _ (per_pos a) (Int.le_refl _) hM.1 (by unfold mostOf mx mn; (repeat' split) <;> omega) (Int.le_refl _)))
  by_cases h : 0 < b
  · exact .inr ⟨decide_eq_true h, decide_eq_false (by have := nb h; omega)⟩
  · exact .inl (decide_eq_false h)
end Go.Proofs.Yteiejbkohnokaaa.WalkWidthMore
