/- The walk of the law WidthKinds: it returns true for all numbers and every request; below its own memory the world stays as it was. -/
import Derived.Test.YteiejbkohnokaaaWalkWidthMore
import Derived.Test.YteiejbkohnokaaaPureWidthAll
import Derived.RegionTactic
import Derived.BigRegion
import Derived.Deep.DeepCutAuto
namespace Go.Proofs.Yteiejbkohnokaaa.WalkWidthKinds
open Go.RowKit Go.Proofs.Yteiejbkohnokaaa.PWidthAll Go.Proofs.YteiejbkohnokaaaW.PrintWords Go.Proofs.YteiejbkohnokaaaW.PrintLast Go.Proofs.YteiejbkohnokaaaW.PrintMore Go.Proofs.Yteiejbkohnokaaa.WidthMath Go.Proofs.Yteiejbkohnokaaa.SeatsIs Go.Proofs.Yteiejbkohnokaaa.WalkWidthMore
attribute [local go_sem] max2_int min2_int max_two min_two max_three min_three max_four min_four   -- for this text's walks alone

theorem small_any (u : ByteArray) (A : Option Addr) (c : Nat) (g : List ByteArray) (v r s : ByteArray) (o : Int) (hg : g.length ≤ 9223372036854775807) (hc : g.length ≤ c) :
    ∃ t : Bool, ∀ w, Kd.C Kd.string w A g.length g → Calls Try.prog 27 #[.agg #[.string u, .slice A g.length c, .string v, .string r, .string s, .int .i64 o]] w fun e w' => e = .returned (.bool t) ∧ Below w.heap.size w w' := by
  obtain ⟨k, t, hk⟩ := Pure.WidthAll.small_is u g v r s o hg
  exact ⟨t, fun w hC => usherref15_Small.calls k u A c g v r s o t w hC hc hk⟩

set_option maxHeartbeats 1000000 in
theorem big (a b : Int) (u : ByteArray) (A : Option Addr) (c : Nat) (g : List ByteArray) (v r s : ByteArray) (o : Int) (w : World) (hC : Aside0 (Kd.C Kd.string w A g.length g))
    (hs : Aside0 (∀ w, Kd.C Kd.string w A g.length g → Calls Try.prog 27 #[.agg #[.string u, .slice A g.length c, .string v, .string r, .string s, .int .i64 o]] w fun e w' => e = .returned (.bool false) ∧ Below w.heap.size w w')) :
    Calls Try.prog 13 #[.int .i64 a, .int .i64 b, .agg #[.string u, .slice A g.length c, .string v, .string r, .string s, .int .i64 o]] w fun e w' => e = .returned (.bool true) ∧ Below w.heap.size w w' := by
  go_enter Try.func13, Try.ntmps13
  go_wp2_with fail
  refine (awake_any _).mono ?_
  rintro e w1 ⟨rfl, hb1⟩
  have HC := Aside0.mk (Kd.C_below (Kd.C_alloc hC.out _) hb1)
  have BK := Aside0.mk (blk_below (blk_new w _) hb1)
  have HB := Aside0.mk (below_step (below_alloc (Below.refl _ _) _) hb1)
  clear hb1
  obtain ⟨c10, c11, c12, c13, c14, c15⟩ := cells6 BK.out
  go_wp2_with fail
  refine (hs.out _ HC.out).mono ?_
  rintro e w2 ⟨rfl, hb2⟩
  replace HB := Aside0.mk (below_step HB.out hb2)
  clear c10 c11 c12 c13 c14 c15 hb2
  go_wp2_with fail
  go_ret
  exact ⟨rfl, HB.out⟩

/-- Three new blocks, one behind the other. -/
theorem three (w : World) (X : Array Value) : Below w.heap.size w (((w.alloc (.cells X 40)).alloc (.cells X 40)).alloc (.cells X 40)).drew ∧
    (((w.alloc (.cells X 40)).alloc (.cells X 40)).alloc (.cells X 40)).drew.heap[w.heap.size]? = some (.cells X 40 (0, 0)) ∧
    (((w.alloc (.cells X 40)).alloc (.cells X 40)).alloc (.cells X 40)).drew.heap[w.heap.size + 1]? = some (.cells X 40 (0, 0)) ∧
    (((w.alloc (.cells X 40)).alloc (.cells X 40)).alloc (.cells X 40)).drew.heap[w.heap.size + 1 + 1]? = some (.cells X 40 (0, 0)) := by
  have s1 : (w.alloc (.cells X 40)).heap.size = w.heap.size + 1 := by simp
  have s2 : ((w.alloc (.cells X 40)).alloc (.cells X 40)).heap.size = w.heap.size + 1 + 1 := by simp
  refine ⟨below_drew (below_alloc (below_alloc (below_alloc (Below.refl _ _) _) _) _), blk_drew (blk_alloc (blk_alloc (blk_new w _) _) _), ?_, ?_⟩
  · have := blk_drew (blk_alloc (blk_new (w.alloc (.cells X 40)) (.cells X 40)) (.cells X 40))
    rwa [s1] at this
  · have := blk_drew (blk_new ((w.alloc (.cells X 40)).alloc (.cells X 40)) (.cells X 40))
    rwa [s2] at this

set_option maxHeartbeats 4000000 in
theorem walk (a b : Int) (u : ByteArray) (A : Option Addr) (c : Nat) (g : List ByteArray) (v r s : ByteArray) (o : Int) (top0 top n n1 n2 : Int) (w : World) (hC : Aside0 (Kd.C Kd.string w A g.length g))
    (e1 : (if b < 1 then 1 else b) = top0) (e2 : (if 16 < top0 then 16 else top0) = top) (e3 : (if top < n + 1 then top else n + 1) = n1) (n0 : 1 ≤ n) (n9 : n ≤ 16)
    (hs : Aside0 (∀ w, Kd.C Kd.string w A g.length g → Calls Try.prog 27 #[.agg #[.string u, .slice A g.length c, .string v, .string r, .string s, .int .i64 o]] w fun e w' => e = .returned (.bool true) ∧ Below w.heap.size w w'))
    (h0 : Aside0 (∀ w, Kd.C Kd.string w A g.length g → Calls Try.prog 28 #[.int .i64 a, .int .i64 b, .agg #[.string u, .slice A g.length c, .string ⟨#[108, 105, 115, 116]⟩, .string r, .string s, .int .i64 o]] w fun e w' => e = .returned (.int .i64 n) ∧ Below w.heap.size w w'))
    (h1 : Aside0 (∀ w, Kd.C Kd.string w A g.length g → Calls Try.prog 28 #[.int .i64 a, .int .i64 b, .agg #[.string u, .slice A g.length c, .string ⟨#[100, 101, 108, 101, 116, 101, 99, 111, 108, 108, 101, 99, 116, 105, 111, 110]⟩, .string r, .string s, .int .i64 o]] w fun e w' => e = .returned (.int .i64 n1) ∧ Below w.heap.size w w'))
    (h2 : Aside0 (∀ w, Kd.C Kd.string w A g.length g → Calls Try.prog 28 #[.int .i64 a, .int .i64 b, .agg #[.string u, .slice A g.length c, .string ⟨#[108, 105, 115, 116]⟩, .string r, .string ⟨#[]⟩, .int .i64 o]] w fun e w' => e = .returned (.int .i64 n2) ∧ Below w.heap.size w w'))
    (h3 : Aside0 (∀ w, Kd.C Kd.string w A g.length g → Calls Try.prog 28 #[.int .i64 a, .int .i64 b, .agg #[.string u, .slice A g.length c, .string ⟨#[103, 101, 116]⟩, .string r, .string s, .int .i64 o]] w fun e w' => e = .returned (.int .i64 1) ∧ Below w.heap.size w w'))
    (t1 : decide (n ≤ n2) = true) :
    Calls Try.prog 13 #[.int .i64 a, .int .i64 b, .agg #[.string u, .slice A g.length c, .string v, .string r, .string s, .int .i64 o]] w fun e w' => e = .returned (.bool true) ∧ Below w.heap.size w w' := by
  go_enter Try.func13, Try.ntmps13
  go_wp2_with fail
  refine (awake_any _).mono ?_
  rintro e w1 ⟨rfl, hb1⟩
  have HC := Aside0.mk (Kd.C_below (Kd.C_alloc hC.out _) hb1)
  have BK := Aside0.mk (blk_below (blk_new w _) hb1)
  have HB := Aside0.mk (below_step (below_alloc (Below.refl _ _) _) hb1)
  clear hb1
  obtain ⟨c10, c11, c12, c13, c14, c15⟩ := cells6 BK.out
  go_wp2_with fail
  refine (hs.out _ HC.out).mono ?_
  rintro e w2 ⟨rfl, hb2⟩
  replace HC := Aside0.mk (Kd.C_below HC.out hb2)
  replace BK := Aside0.mk (blk_below BK.out hb2)
  replace HB := Aside0.mk (below_step HB.out hb2)
  clear c10 c11 c12 c13 c14 c15 hb2
  obtain ⟨c20, c21, c22, c23, c24, c25⟩ := cells6 BK.out
  have hs2 := blk_lt BK.out
  have hs3 : w.heap.size < w2.heap.size + 1 := by omega
  have hs4 : w.heap.size < w2.heap.size + 1 + 1 := by omega
  have hs5 : w.heap.size < w2.heap.size + 2 := by omega
  go_wp2_with fail
  go_cut [7, 8, 9] (fun s7 s8 s9 wx => ∃ g7 g8 g9 : Nat, s7 = .pointer (some ⟨g7, 0, none⟩) ∧ s8 = .pointer (some ⟨g8, 0, none⟩) ∧ s9 = .pointer (some ⟨g9, 0, none⟩) ∧ Below w2.heap.size w2 wx ∧ g7 ≠ g8 ∧ g7 ≠ g9 ∧ g8 ≠ g9 ∧ w2.heap.size ≤ g7 ∧ w2.heap.size ≤ g8 ∧ w2.heap.size ≤ g9 ∧
    wx.heap[g7]? = some (.cells #[.string u, .slice A g.length c, .string v, .string r, .string s, .int .i64 o] 40 (0, 0)) ∧ wx.heap[g8]? = some (.cells #[.string u, .slice A g.length c, .string v, .string r, .string s, .int .i64 o] 40 (0, 0)) ∧ wx.heap[g9]? = some (.cells #[.string u, .slice A g.length c, .string v, .string r, .string s, .int .i64 o] 40 (0, 0)))
  case first =>
    go_region
    all_goals (go_wp2_with fail; go_meet)
    all_goals
      have T := three w2 #[.string u, .slice A g.length c, .string v, .string r, .string s, .int .i64 o]
      exact ⟨_, _, _, rfl, rfl, rfl, T.1, by omega, by omega, by omega, by omega, by omega, by omega, by first | exact T.2.1 | exact T.2.2.1 | exact T.2.2.2, by first | exact T.2.1 | exact T.2.2.1 | exact T.2.2.2, by first | exact T.2.1 | exact T.2.2.1 | exact T.2.2.2⟩
  case rest =>
    obtain ⟨g7, g8, g9, rfl, rfl, rfl, hb3, n78, n79, n89, l7, l8, l9, k7, k8, k9⟩ := hcut
    replace HC := Aside0.mk (Kd.C_below HC.out hb3)
    replace HB := Aside0.mk (below_step HB.out hb3)
    have lw := HB.out.size
    have l7' : w.heap.size ≤ g7 := by omega
    have l8' : w.heap.size ≤ g8 := by omega
    have l9' : w.heap.size ≤ g9 := by omega
    have K7 := Aside0.mk k7
    have K8 := Aside0.mk k8
    have K9 := Aside0.mk k9
    clear k7 k8 k9 c20 c21 c22 c23 c24 c25 hs2 hs3 hs4 hs5 BK hb3 lw l7 l8 l9
    have q7 := blk_cell K7.out 2
    have q8 := blk_cell K8.out 2
    have q9 := blk_cell K9.out 2
    have p7 := blk_frozen K7.out 2
    have p8 := blk_frozen K8.out 2
    have p9 := blk_frozen K9.out 2
    have m78 : (g8 = g7) = False := eq_false (Ne.symm n78)
    have m79 : (g9 = g7) = False := eq_false (Ne.symm n79)
    have m89 : (g9 = g8) = False := eq_false (Ne.symm n89)
    go_upto_region 6 with (fail)
    go_cut [] (fun wx => Below w.heap.size w wx ∧
      wx.heap[g7]? = some (.cells #[.string u, .slice A g.length c, .string ⟨#[108, 105, 115, 116]⟩, .string r, .string s, .int .i64 o] 40 (0, 0)) ∧
      wx.heap[g8]? = some (.cells #[.string u, .slice A g.length c, .string ⟨#[100, 101, 108, 101, 116, 101, 99, 111, 108, 108, 101, 99, 116, 105, 111, 110]⟩, .string r, .string s, .int .i64 o] 40 (0, 0)) ∧
      wx.heap[g9]? = some (.cells #[.string u, .slice A g.length c, .string ⟨#[103, 101, 116]⟩, .string r, .string s, .int .i64 o] 40 (0, 0)))
    case first =>
      go_wp2_with fail
      go_meet
      case rel =>
        exact ⟨((HB.out.setCell l7' _).setCell l8' _).setCell l9' _,
          blk_far (blk_far (blk_put K7.out 2 _ rfl) n78 _) n79 _,
          blk_far (blk_put (blk_far K8.out (Ne.symm n78) _) 2 _ rfl) n89 _,
          blk_put (blk_far (blk_far K9.out (Ne.symm n79) _) (Ne.symm n89) _) 2 _ rfl⟩
    case rest =>
      obtain ⟨hb4, k7, k8, k9⟩ := hcut
      clear HC HB K7 K8 K9 q7 q8 q9 p7 p8 p9 m78 m79 m89 n78 n79 n89 l7' l8' l9'
      have HB := Aside0.mk hb4
      have HC := Aside0.mk (Kd.C_below hC.out hb4)
      have K7 := Aside0.mk k7
      have K8 := Aside0.mk k8
      have K9 := Aside0.mk k9
      clear k7 k8 k9 hb4
      obtain ⟨c70, c71, c72, c73, c74, c75⟩ := cells6 K7.out
      have lt7 := blk_lt K7.out
      go_wp2_with fail
      refine (h0.out _ (Kd.C_alloc HC.out _)).mono ?_
      rintro e w5 ⟨rfl, hb5⟩
      replace HC := Aside0.mk (Kd.C_below (Kd.C_alloc HC.out _) hb5)
      have K10 := Aside0.mk (blk_below (blk_new wc _) hb5)
      replace K8 := Aside0.mk (blk_below (blk_alloc K8.out _) hb5)
      replace K9 := Aside0.mk (blk_below (blk_alloc K9.out _) hb5)
      replace HB := Aside0.mk (below_step (below_alloc HB.out _) hb5)
      clear c70 c71 c72 c73 c74 c75 lt7 hb5 K7
      obtain ⟨c80, c81, c82, c83, c84, c85⟩ := cells6 K8.out
      go_wp2_with fail
      refine (h1.out _ HC.out).mono ?_
      rintro e w6 ⟨rfl, hb6⟩
      replace HC := Aside0.mk (Kd.C_below HC.out hb6)
      replace K10 := Aside0.mk (blk_below K10.out hb6)
      replace K9 := Aside0.mk (blk_below K9.out hb6)
      replace HB := Aside0.mk (below_step HB.out hb6)
      clear c80 c81 c82 c83 c84 c85 hb6 K8
      obtain ⟨d0, d1, d2, d3, d4, d5⟩ := cells6 K10.out
      go_wp2_with fail
      refine (h2.out _ HC.out).mono ?_
      rintro e w7 ⟨rfl, hb7⟩
      replace HC := Aside0.mk (Kd.C_below HC.out hb7)
      replace K9 := Aside0.mk (blk_below K9.out hb7)
      replace HB := Aside0.mk (below_step HB.out hb7)
      clear d0 d1 d2 d3 d4 d5 hb7 K10
      obtain ⟨c90, c91, c92, c93, c94, c95⟩ := cells6 K9.out
      go_wp2_with fail
      refine (h3.out _ HC.out).mono ?_
      rintro e w8 ⟨rfl, hb8⟩
      replace HB := Aside0.mk (below_step HB.out hb8)
      clear c90 c91 c92 c93 c94 c95 hb8
      go_wp2_with fail
      go_ret
      exact ⟨rfl, HB.out⟩

theorem cls_list : cls (⟨#[108, 105, 115, 116]⟩ : ByteArray).toList = 1 := by decide +kernel
theorem cls_all : cls (⟨#[100, 101, 108, 101, 116, 101, 99, 111, 108, 108, 101, 99, 116, 105, 111, 110]⟩ : ByteArray).toList = 2 := by decide +kernel
theorem cls_get : cls (⟨#[103, 101, 116]⟩ : ByteArray).toList = 0 := by decide +kernel
theorem sp_none : spOf (⟨#[]⟩ : ByteArray) = false := by decide +kernel

theorem law (a b : Int) (u : ByteArray) (A : Option Addr) (c : Nat) (g : List ByteArray) (v r s : ByteArray) (o : Int) (w : World) (hC : Kd.C Kd.string w A g.length g) (hc : g.length ≤ c) (hg : g.length ≤ 9223372036854775807)
    (ho : o ≤ 9223372036854775807) :
    Calls Try.prog 13 #[.int .i64 a, .int .i64 b, .agg #[.string u, .slice A g.length c, .string v, .string r, .string s, .int .i64 o]] w fun e w' => e = .returned (.bool true) ∧ Below w.heap.size w w' := by
  obtain ⟨t, ht⟩ := small_any u A c g v r s o hg hc
  cases t with
  | false => exact big a b u A c g v r s o w ⟨hC⟩ ⟨ht⟩
  | true =>
    have hM := most_range b
    have hP := per_pos a
    have n_is : ∀ z : ByteArray, SW a b ⟨#[108, 105, 115, 116]⟩ z o = mn (mn (mx (uI (perOf a) (spOf z) (objOf o)) 1) (mostOf b)) (mostOf b) := by
      intro z; unfold SW; rw [cls_list]; rfl
    have hn := seatsI_range (O := objOf o) (cls (⟨#[108, 105, 115, 116]⟩ : ByteArray).toList) (P := perOf a) (spOf s) hM.1
    have e1 : SW a b ⟨#[100, 101, 108, 101, 116, 101, 99, 111, 108, 108, 101, 99, 116, 105, 111, 110]⟩ s o = (if mostOf b < SW a b ⟨#[108, 105, 115, 116]⟩ s o + 1 then mostOf b else SW a b ⟨#[108, 105, 115, 116]⟩ s o + 1) := by
      have : SW a b ⟨#[100, 101, 108, 101, 116, 101, 99, 111, 108, 108, 101, 99, 116, 105, 111, 110]⟩ s o = mn (1 + mn (mx (uI (perOf a) (spOf s) (objOf o)) 1) (mostOf b)) (mostOf b) := by
        unfold SW; rw [cls_all]; rfl
      rw [this, n_is]
      generalize mx (uI (perOf a) (spOf s) (objOf o)) 1 = z
      generalize mostOf b = M at *
      unfold mn
      (repeat' split) <;> omega
    have e2 : SW a b ⟨#[103, 101, 116]⟩ s o = 1 := by
      have : SW a b ⟨#[103, 101, 116]⟩ s o = mn 1 (mostOf b) := by unfold SW; rw [cls_get]; rfl
      rw [this]; unfold mn; split <;> omega
    have e3 : SW a b ⟨#[108, 105, 115, 116]⟩ s o ≤ SW a b ⟨#[108, 105, 115, 116]⟩ ⟨#[]⟩ o := by
      rw [n_is, n_is, sp_none]
      have k : uI (perOf a) (spOf s) (objOf o) ≤ uI (perOf a) false (objOf o) := by
        cases spOf s with
        | false => exact Int.le_refl _
        | true => exact uI_space hP
      generalize uI (perOf a) (spOf s) (objOf o) = y at *
      generalize uI (perOf a) false (objOf o) = z at *
      unfold mn mx
      (repeat' split) <;> omega
    refine walk a b u A c g v r s o (mx b 1) (mostOf b) (SW a b ⟨#[108, 105, 115, 116]⟩ s o) _ (SW a b ⟨#[108, 105, 115, 116]⟩ ⟨#[]⟩ o) w ⟨hC⟩ rfl rfl rfl hn.1 (by have := hn.2; show seatsI _ _ _ _ _ ≤ 16; omega) ⟨ht⟩
      ⟨fun w h => seats_any a b u A c g _ r s o ho w h hc⟩ ⟨fun w h => ?_⟩ ⟨fun w h => seats_any a b u A c g _ r _ o ho w h hc⟩ ⟨fun w h => ?_⟩ (decide_eq_true e3)
    · rw [← e1]; exact seats_any a b u A c g _ r s o ho w h hc
    · have := seats_any a b u A c g ⟨#[103, 101, 116]⟩ r s o ho w h hc
      rw [e2] at this; exact this
end Go.Proofs.Yteiejbkohnokaaa.WalkWidthKinds
