-- PRINTED BY print.sh 35421559b90ae4d0a3588c463048766b98c2df88dd9212a6774a882060cdf62d: not written by this session
import Derived.Test.YtnbnaflhijfamaaPFillAllx0
import Derived.Test.YtnbnaflhijfamaaPFillAllx1
namespace Go.Proofs.Ytnbnaflhijfamaa.PFillAll
open Go.RowKit Go.Proofs.YtnbnaflhijfamaaW.PrintWords Go.Proofs.YtnbnaflhijfamaaW.PrintLast Go.Proofs.YtnbnaflhijfamaaW.PrintMore
attribute [local go_sem] max2_int min2_int max_two min_two max_three min_three max_four min_four   -- for this text's walks alone
set_option linter.unusedVariables false
set_option linter.unusedSimpArgs false

/-! ### usherref10_Copy: function 13 -/
mutual
def usherref10_Copy.l0 : Nat → List (S34) → Int → Int → Int → Int → Int → List (S31) → List (S34) → Option (Int × Int × Int × Int × (List (S31)) × (List (S34)))
  | 0, _, _, _, _, _, _, _, _ => none
  | k + 1, x3, x4, x126000, x126001, x126002, x126003, x126004, x126005 => if x4 < (x126005.length : Int) then (if 0 ≤ x4 then (usherref10_Copy.l1 k x3 x4 ([] : List (S37)) 0 x126000 x126001 x126002 x126003 x126004 x126005 ((rd_T34 x126005 x4).f0) ((rd_T34 x126005 x4).f1) ((rd_T34 x126005 x4).f2) ((rd_T34 x126005 x4).f3) ((rd_T34 x126005 x4).f4)) else (none)) else (some (x126000, x126001, x126002, x126003, x126004, x3))
def usherref10_Copy.l1 : Nat → List (S34) → Int → List (S37) → Int → Int → Int → Int → Int → List (S31) → List (S34) → ByteArray → ByteArray → Int → Int → List (S37) → Option (Int × Int × Int × Int × (List (S31)) × (List (S34)))
  | 0, _, _, _, _, _, _, _, _, _, _, _, _, _, _, _ => none
  | k + 1, x3, x4, x6, x7, x126000, x126001, x126002, x126003, x126004, x126005, x135000, x135001, x135002, x135003, x135004 => if x7 < (x135004.length : Int) then (if 0 ≤ x7 then ((usherref10_words.f ((rd_T37 x135004 x7).f0)).bind fun t140 => ((usherref10_words.f ((rd_T37 x135004 x7).f1)).bind fun t143 => ((usherref10_words.f ((rd_T37 x135004 x7).f2)).bind fun t146 => ((usherref10_words.f ((rd_T37 x135004 x7).f3)).bind fun t149 => ((usherref10_words.f ((rd_T37 x135004 x7).f4)).bind fun t152 => (if x6.length < 1172812402961 then (usherref10_Copy.l1 k x3 x4 (x6 ++ [(⟨t140, t143, t146, t149, t152⟩ : S37)]) (wrap64 (x7 + 1)) x126000 x126001 x126002 x126003 x126004 x126005 x135000 x135001 x135002 x135003 x135004) else (none))))))) else (none)) else (if x3.length < 1954687338268 then (usherref10_Copy.l0 k (x3 ++ [(⟨x135000, x135001, x135002, x135003, x6⟩ : S34)]) (wrap64 (x4 + 1)) x126000 x126001 x126002 x126003 x126004 x126005) else (none))
end
def usherref10_Copy.f (k : Nat) (a0_0 : Int) (a0_1 : Int) (a0_2 : Int) (a0_3 : Int) (l0_4 : List (S31)) (l0_5 : List (S34)) : Option (Int × Int × Int × Int × (List (S31)) × (List (S34))) := (some (([] : List (S31)) : List (S31))).bind fun y127 => (if y127.length + l0_4.length < 1599289640401 then (usherref10_Copy.l0 k ([] : List (S34)) 0 a0_0 a0_1 a0_2 a0_3 (y127 ++ l0_4) l0_5) else (none))
theorem usherref10_Copy.mono_l : ∀ k, (∀ y0 y1 y2 y3 y4 y5 y6 y7, LeO (usherref10_Copy.l0 k y0 y1 y2 y3 y4 y5 y6 y7) (usherref10_Copy.l0 (k + 1) y0 y1 y2 y3 y4 y5 y6 y7)) ∧ (∀ y0 y1 y2 y3 y4 y5 y6 y7 y8 y9 y10 y11 y12 y13 y14, LeO (usherref10_Copy.l1 k y0 y1 y2 y3 y4 y5 y6 y7 y8 y9 y10 y11 y12 y13 y14) (usherref10_Copy.l1 (k + 1) y0 y1 y2 y3 y4 y5 y6 y7 y8 y9 y10 y11 y12 y13 y14))
  | 0 => ⟨fun _ _ _ _ _ _ _ _ r h => by simp [usherref10_Copy.l0] at h, fun _ _ _ _ _ _ _ _ _ _ _ _ _ _ _ r h => by simp [usherref10_Copy.l1] at h⟩
  | k + 1 => by
    obtain ⟨ih0, ih1⟩ := usherref10_Copy.mono_l k
    refine ⟨?_, ?_⟩
    · intro y0 y1 y2 y3 y4 y5 y6 y7
      unfold usherref10_Copy.l0
      repeat' first
      | (with_reducible exact ih0 _ _ _ _ _ _ _ _)
      | (with_reducible exact ih1 _ _ _ _ _ _ _ _ _ _ _ _ _ _ _)
      | (with_reducible exact LeO.refl _)
      | (with_reducible exact LeO.none _)
      | (with_reducible refine LeO.ite ?_ ?_)
      | (with_reducible refine LeO.bind ?_ (fun _ => ?_))
      | exact ih0 _ _ _ _ _ _ _ _
      | exact ih1 _ _ _ _ _ _ _ _ _ _ _ _ _ _ _
      | exact LeO.none _
      | refine LeO.ite ?_ ?_
      | refine LeO.bind ?_ (fun _ => ?_)
    · intro y0 y1 y2 y3 y4 y5 y6 y7 y8 y9 y10 y11 y12 y13 y14
      unfold usherref10_Copy.l1
      repeat' first
      | (with_reducible exact ih0 _ _ _ _ _ _ _ _)
      | (with_reducible exact ih1 _ _ _ _ _ _ _ _ _ _ _ _ _ _ _)
      | (with_reducible exact LeO.refl _)
      | (with_reducible exact LeO.none _)
      | (with_reducible refine LeO.ite ?_ ?_)
      | (with_reducible refine LeO.bind ?_ (fun _ => ?_))
      | exact ih0 _ _ _ _ _ _ _ _
      | exact ih1 _ _ _ _ _ _ _ _ _ _ _ _ _ _ _
      | exact LeO.none _
      | refine LeO.ite ?_ ?_
      | refine LeO.bind ?_ (fun _ => ?_)
theorem usherref10_Copy.mono : ∀ a0 a1 a2 a3 a4 a5 k, LeO (usherref10_Copy.f k a0 a1 a2 a3 a4 a5) (usherref10_Copy.f (k + 1) a0 a1 a2 a3 a4 a5) := by
  intro a0 a1 a2 a3 a4 a5 k
  obtain ⟨ih0, ih1⟩ := usherref10_Copy.mono_l k
  unfold usherref10_Copy.f
  repeat' first
      | (with_reducible exact ih0 _ _ _ _ _ _ _ _)
      | (with_reducible exact ih1 _ _ _ _ _ _ _ _ _ _ _ _ _ _ _)
      | (with_reducible exact LeO.refl _)
      | (with_reducible exact LeO.none _)
      | (with_reducible refine LeO.ite ?_ ?_)
      | (with_reducible refine LeO.bind ?_ (fun _ => ?_))
      | exact ih0 _ _ _ _ _ _ _ _
      | exact ih1 _ _ _ _ _ _ _ _ _ _ _ _ _ _ _
      | exact LeO.none _
      | refine LeO.ite ?_ ?_
      | refine LeO.bind ?_ (fun _ => ?_)
def usherref10_Copy.T12 : Bool × List (List Nat × List Nat) := (true, [([], []), ([], []), ([1], [1]), ([2], [2]), ([], []), ([4], [4]), ([5, 3], [5]), ([], []), ([7], [7]), ([8, 6], [8]), ([], []), ([10], [10]), ([11, 9], [11]), ([], []), ([13], [13]), ([14, 12], [14]), ([3, 6, 9, 12, 15], [3, 6, 9, 12, 15]), ([16], [16]), ([0, 17, 15], [0, 17]), ([18, 18, 0, 1, 2, 3, 4, 5, 6, 7, 8, 9, 10, 11, 12, 13, 14, 15, 16, 17, 18], [0, 18])])
def usherref10_Copy.B12 : List Nat := [0, 0, 2, 6, 0, 16, 62, 0, 128, 510, 0, 1024, 4094, 0, 8192, 32766, 65534, 131070, 262143, 524287]
theorem usherref10_Copy.tab12 : rtab .any (opsOf Try.f13 12) = usherref10_Copy.T12 := by kernel_rfl
theorem usherref10_Copy.bits12 : waitsOk usherref10_Copy.T12.2 usherref10_Copy.B12 = true := by kernel_rfl
set_option maxHeartbeats 8000000 in
set_option maxRecDepth 100000 in
theorem usherref10_Copy.calls (k : Nat) (a0_0 : Int) (a0_1 : Int) (a0_2 : Int) (a0_3 : Int) (A0_4 : Option Addr) (c0_4 : Nat) (l0_4 : List (S31)) (A0_5 : Option Addr) (c0_5 : Nat) (l0_5 : List (S34)) (r1 : Int) (r2 : Int) (r3 : Int) (r4 : Int) (r5 : List (S31)) (r6 : List (S34)) (w : World) (hr0_4 : Kd.C k31 w A0_4 l0_4.length l0_4) (hc0_4 : l0_4.length ≤ c0_4) (hr0_5 : Kd.C k34 w A0_5 l0_5.length l0_5) (hc0_5 : l0_5.length ≤ c0_5) (h : usherref10_Copy.f k a0_0 a0_1 a0_2 a0_3 l0_4 l0_5 = some (r1, r2, r3, r4, r5, r6)) :
    Calls Try.prog 13 #[.agg #[.int .i64 a0_0, .int .i64 a0_1, .int .i64 a0_2, .int .i64 a0_3, .slice A0_4 l0_4.length c0_4, .slice A0_5 l0_5.length c0_5]] w fun e w' => ∃ v4_ v5_ : Value, e = .returned (.agg #[.int .i64 r1, .int .i64 r2, .int .i64 r3, .int .i64 r4, v4_, v5_]) ∧ Kd.R k31 31 w' w.heap.size (fun _ => True) v4_ r5 ∧ Kd.R k34 34 w' w.heap.size (fun _ => True) v5_ r6 ∧ Below w.heap.size w w' := by
  have hu25 := Try.underlying25
  have hu34 := Try.underlying34
  have hu37 := Try.underlying37
  have HR0_4 := Aside0.mk hr0_4
  have HC0_4 := Aside0.mk hc0_4
  clear hr0_4 hc0_4
  have HR0_5 := Aside0.mk hr0_5
  have HC0_5 := Aside0.mk hc0_5
  clear hr0_5 hc0_5
  have HB := Aside0.mk (Below.refl w.heap.size w)
  have H : ((some (([] : List (S31)) : List (S31))).bind fun y127 => (if y127.length + l0_4.length < 1599289640401 then (usherref10_Copy.l0 k ([] : List (S34)) 0 a0_0 a0_1 a0_2 a0_3 (y127 ++ l0_4) l0_5) else (none))) = some (r1, r2, r3, r4, r5, r6) := h
  clear h
  obtain ⟨y127, hy127⟩ : ∃ y_ : List (S31), y_ = (([] : List (S31))) := ⟨_, rfl⟩
  replace H : (if y127.length + l0_4.length < 1599289640401 then (usherref10_Copy.l0 k ([] : List (S34)) 0 a0_0 a0_1 a0_2 a0_3 (y127 ++ l0_4) l0_5) else (none)) = some (r1, r2, r3, r4, r5, r6) := by first | (rw [hy127]; with_reducible exact H) | (have H2_ := (Option.bind_some _ _).symm.trans H; rw [hy127]; with_reducible exact H2_) | (have H2_ := (Option.bind_some _ _).symm.trans H; with_reducible exact H2_) | with_reducible exact H | (rw [hy127]; exact H) | exact H
  have Ny127 := Aside0.mk hy127
  clear hy127
  by_cases c2 : y127.length + l0_4.length < 1599289640401
  · rw [if_pos c2] at H
    have LMc2 := Aside0.mk c2
    clear c2
    obtain ⟨y130, hy130⟩ : ∃ y_ : List (S31), y_ = (y127 ++ l0_4) := ⟨_, rfl⟩
    replace H : (usherref10_Copy.l0 k ([] : List (S34)) 0 a0_0 a0_1 a0_2 a0_3 y130 l0_5) = some (r1, r2, r3, r4, r5, r6) := by first | (rw [hy130]; with_reducible exact H) | (have H2_ := (Option.bind_some _ _).symm.trans H; rw [hy130]; with_reducible exact H2_) | (have H2_ := (Option.bind_some _ _).symm.trans H; with_reducible exact H2_) | with_reducible exact H | (rw [hy130]; exact H) | exact H
    have Ny130 := Aside0.mk hy130
    clear hy130
    have H' := Aside0.mk H
    clear H
    go_enter Try.func13, Try.ntmps13
    go_wp2_with (first | ((with_reducible refine gate_dst (N := 1) rfl ?_); refine box_event ?hg (N := 1) ?hd (cs := #[.int .i64 a0_0, .int .i64 a0_1, .int .i64 a0_2, .int .i64 a0_3, .slice A0_4 l0_4.length c0_4, .slice A0_5 l0_5.length c0_5]) (t := 25) ?hr ?_; (case hd => rfl); (case hg => rfl); (case hr => first | (go_simp; done) | (go_simp; rfl)); intro gb125 hg w3 hbox hb; have n0_ := Aside0.mk (below_step (by repeat (first | (with_reducible first | exact HB.out | apply below_alloc | apply pw_below_drewN | apply below_drew1) | exact HB.out)) hb); have n1_ := Aside0.mk (hbox); have n2_ := Aside0.mk ((by rw [hg]; exact (below_size (by repeat (first | (with_reducible first | exact HB.out | apply below_alloc | apply pw_below_drewN | apply below_drew1) | exact HB.out))) : w.heap.size ≤ gb125)); have n3_ := Aside0.mk ((by rw [hg]; exact (below_size (by repeat (first | (with_reducible first | exact HB.out | apply below_alloc | apply pw_below_drewN | apply below_drew1) | exact HB.out))) : w.heap.size ≤ gb125)); clear HB; have HB := n0_; have BK125 := n1_; have GW125 := n2_; have GE125 := n3_; clear n0_ n1_ n2_ n3_; clear hb hbox hg) | ((with_reducible refine gate_dst (N := 2) rfl ?_); refine box_event ?hg (N := 2) ?hd (cs := #[.int .i64 0, .int .i64 0, .int .i64 0, .int .i64 0, .slice none 0 0, .slice none 0 0]) (t := 25) ?hr ?_; (case hd => rfl); (case hg => rfl); (case hr => first | (go_simp; done) | (go_simp; rfl)); intro gb126 hg w4 hbox hb; have n0_ := Aside0.mk (blk_below (g := gb125) (o := .cells #[.int .i64 a0_0, .int .i64 a0_1, .int .i64 a0_2, .int .i64 a0_3, .slice A0_4 l0_4.length c0_4, .slice A0_5 l0_5.length c0_5] 25 (0, 0)) (by (with_reducible repeat (first | refine blk_drewN ?_ _ | refine blk_drew ?_ | refine blk_alloc ?_ _)); exact BK125.out) hb); have n1_ := Aside0.mk (below_step (by repeat (first | (with_reducible first | exact HB.out | apply below_alloc | apply pw_below_drewN | apply below_drew1 | refine below_set ?_ GE125.out) | exact HB.out)) hb); have n2_ := Aside0.mk (hbox); have n3_ := Aside0.mk ((by rw [hg]; exact (below_size (by repeat (first | (with_reducible first | exact HB.out | apply below_alloc | apply pw_below_drewN | apply below_drew1 | refine below_set ?_ GE125.out) | exact HB.out))) : w.heap.size ≤ gb126)); have n4_ := Aside0.mk ((by rw [hg]; exact (below_size (by repeat (first | (with_reducible first | exact HB.out | apply below_alloc | apply pw_below_drewN | apply below_drew1 | refine below_set ?_ GE125.out) | exact HB.out))) : w.heap.size ≤ gb126)); have n5_ := Aside0.mk ((by rw [hg]; exact Nat.ne_of_lt (blk_lt (g := gb125) (o := .cells #[.int .i64 a0_0, .int .i64 a0_1, .int .i64 a0_2, .int .i64 a0_3, .slice A0_4 l0_4.length c0_4, .slice A0_5 l0_5.length c0_5] 25 (0, 0)) (by (with_reducible repeat (first | refine blk_drewN ?_ _ | refine blk_drew ?_ | refine blk_alloc ?_ _)); exact BK125.out)) : gb125 ≠ gb126)); have n6_ := Aside0.mk ((by rw [hg]; exact Nat.ne_of_gt (blk_lt (g := gb125) (o := .cells #[.int .i64 a0_0, .int .i64 a0_1, .int .i64 a0_2, .int .i64 a0_3, .slice A0_4 l0_4.length c0_4, .slice A0_5 l0_5.length c0_5] 25 (0, 0)) (by (with_reducible repeat (first | refine blk_drewN ?_ _ | refine blk_drew ?_ | refine blk_alloc ?_ _)); exact BK125.out)) : gb126 ≠ gb125)); clear BK125; clear HB; have BK125 := n0_; have HB := n1_; have BK126 := n2_; have GW126 := n3_; have GE126 := n4_; have NB125_126 := n5_; have NB126_125 := n6_; clear n0_ n1_ n2_ n3_ n4_ n5_ n6_; clear hb hbox hg) | ((with_reducible refine gate_dst (N := 9) rfl ?_); refine Kd.R_lit k31 _ 31 ?hg (N := 9) ?hd (xs := ([] : List (S31))) (inner := []) (ok := fun _ => True) (okp := fun _ => True) ?hr ?hp (fun _ hk => hk) trivial (Below.refl _ _) (Nat.le_refl _) (by simp) ?_; (case hd => rfl); (case hg => rfl); (case hr => first | (go_simp; done) | (go_simp; rfl)); (case hp => exact (Reps.none _ _)); intro v128 w5 ho6 hb hg_ hnew_; clear hg_ hnew_; (first | rw [← Ny127.out] at ho6 | (simp only [Int.reduceToNat] at ho6; rw [← Ny127.out] at ho6)); have n0_ := Aside0.mk (Kd.R_lower ho6 (below_size (by repeat (first | (with_reducible first | exact HB.out | apply below_alloc | apply pw_below_drewN | apply below_drew1 | refine below_set ?_ GE125.out | refine below_set ?_ GE126.out) | exact HB.out)))); have n1_ := Aside0.mk (blk_below (g := gb125) (o := .cells #[.int .i64 a0_0, .int .i64 a0_1, .int .i64 a0_2, .int .i64 a0_3, .slice A0_4 l0_4.length c0_4, .slice A0_5 l0_5.length c0_5] 25 (0, 0)) (by (with_reducible repeat (first | refine blk_drewN ?_ _ | refine blk_drew ?_ | refine blk_alloc ?_ _)); exact BK125.out) hb); have n2_ := Aside0.mk (blk_below (g := gb126) (o := .cells #[.int .i64 0, .int .i64 0, .int .i64 0, .int .i64 0, .slice none 0 0, .slice none 0 0] 25 (0, 0)) (by (with_reducible repeat (first | refine blk_drewN ?_ _ | refine blk_drew ?_ | refine blk_alloc ?_ _)); exact BK126.out) hb); have n3_ := Aside0.mk (below_step (by repeat (first | (with_reducible first | exact HB.out | apply below_alloc | apply pw_below_drewN | apply below_drew1 | refine below_set ?_ GE125.out | refine below_set ?_ GE126.out) | exact HB.out)) hb); clear BK125; clear BK126; clear HB; have HO129 := n0_; have BK125 := n1_; have BK126 := n2_; have HB := n3_; clear n0_ n1_ n2_ n3_; clear hb ho6; have hnb7 := NB125_126.out; have hnc7 := NB126_125.out; have hcz8_0 : w5.cell? ⟨gb125, 0, none⟩ = some (.int .i64 a0_0) := (blk_cell BK125.out 0).trans rfl; have hcz8_1 : w5.cell? ⟨gb125, 1, none⟩ = some (.int .i64 a0_1) := (blk_cell BK125.out 1).trans rfl; have hcz8_2 : w5.cell? ⟨gb125, 2, none⟩ = some (.int .i64 a0_2) := (blk_cell BK125.out 2).trans rfl; have hcz8_3 : w5.cell? ⟨gb125, 3, none⟩ = some (.int .i64 a0_3) := (blk_cell BK125.out 3).trans rfl; have hcz8_4 : w5.cell? ⟨gb125, 4, none⟩ = some (.slice A0_4 l0_4.length c0_4) := (blk_cell BK125.out 4).trans rfl; have hcz8_5 : w5.cell? ⟨gb125, 5, none⟩ = some (.slice A0_5 l0_5.length c0_5) := (blk_cell BK125.out 5).trans rfl; have hfz8_0 := blk_frozen BK125.out 0; have hfz8_1 := blk_frozen BK125.out 1; have hfz8_2 := blk_frozen BK125.out 2; have hfz8_3 := blk_frozen BK125.out 3; have hfz8_4 := blk_frozen BK125.out 4; have hfz8_5 := blk_frozen BK125.out 5) | ((with_reducible refine gate_builtin (b := .append) (xs := #[.tmp 9, .tmp 11]) rfl ?_); at_builtin; refine Kd.R_append_rows k31 (w0 := w) w.heap.size rfl (.tmp 9) (.tmp 11) 22 31 (.agg #[(.string ⟨#[]⟩), (.int .i64 0), (.int .i64 0), (.int .i64 0), (.int .i64 0), (.int .i64 0), (.int .i64 0), (.int .i64 0), (.int .i64 0), (.int .i64 0)]) 88 rfl Try.underlying22 info31 rfl (by decide) (by omega) v128 y127 l0_4 _ _ _ (fun _ => True) (fun _ => False) rfl rfl ?aO ?aR (fun _ _ h => h) (fun _ h => h.elim) ?aF ?aB ?aS ?aL ?_; (case aR => repeat (first | exact (Kd.C_below HR0_4.out HB.out) | (with_reducible refine Kd.C_alloc ?_ _) | (with_reducible refine Kd.C_drewN ?_ _) | (with_reducible refine Kd.C_drew ?_))); (case aB => exact (by repeat (first | (with_reducible first | exact HB.out | apply below_alloc | apply pw_below_drewN | apply below_drew1 | refine below_set ?_ GE125.out | refine below_set ?_ GE126.out) | exact HB.out))); (case aF => exact (fun _ _ => trivial)); (case aO => exact (by (with_reducible repeat (first | apply Kd.R_alloc | apply Kd.R_drewN | apply Kd.R_drew)); exact HO129.out)); (case aS => exact (below_size (by repeat (first | (with_reducible first | exact HB.out | apply below_alloc | apply pw_below_drewN | apply below_drew1 | refine below_set ?_ GE125.out | refine below_set ?_ GE126.out) | exact HB.out)))); (case aL => have := LMc2.out; omega); intro v131 w9 ho hb hg hat; rw [← Ny130.out] at ho; have n0_ := Aside0.mk (blk_grown (g := gb125) (o := .cells #[.int .i64 a0_0, .int .i64 a0_1, .int .i64 a0_2, .int .i64 a0_3, .slice A0_4 l0_4.length c0_4, .slice A0_5 l0_5.length c0_5] 25 (0, 0)) (by (with_reducible repeat (first | refine blk_drewN ?_ _ | refine blk_drew ?_ | refine blk_alloc ?_ _)); exact BK125.out) hg (Kd.R_ne HO129.out BK125.out (by decide))); have n1_ := Aside0.mk (blk_grown (g := gb126) (o := .cells #[.int .i64 0, .int .i64 0, .int .i64 0, .int .i64 0, .slice none 0 0, .slice none 0 0] 25 (0, 0)) (by (with_reducible repeat (first | refine blk_drewN ?_ _ | refine blk_drew ?_ | refine blk_alloc ?_ _)); exact BK126.out) hg (Kd.R_ne HO129.out BK126.out (by decide))); have n2_ := Aside0.mk (hb); have n3_ := Aside0.mk (ho); clear BK125; clear BK126; clear HB; clear HO129; have BK125 := n0_; have BK126 := n1_; have HB := n2_; have HO132 := n3_; clear n0_ n1_ n2_ n3_; clear ho hb hg hat; obtain ⟨Ao10, co10, eo10⟩ := Kd.R_slice HO132.out; subst eo10; have hcz11_0 : w9.cell? ⟨gb125, 0, none⟩ = some (.int .i64 a0_0) := (blk_cell BK125.out 0).trans rfl; have hcz11_1 : w9.cell? ⟨gb125, 1, none⟩ = some (.int .i64 a0_1) := (blk_cell BK125.out 1).trans rfl; have hcz11_2 : w9.cell? ⟨gb125, 2, none⟩ = some (.int .i64 a0_2) := (blk_cell BK125.out 2).trans rfl; have hcz11_3 : w9.cell? ⟨gb125, 3, none⟩ = some (.int .i64 a0_3) := (blk_cell BK125.out 3).trans rfl; have hcz11_4 : w9.cell? ⟨gb125, 4, none⟩ = some (.slice A0_4 l0_4.length c0_4) := (blk_cell BK125.out 4).trans rfl; have hcz11_5 : w9.cell? ⟨gb125, 5, none⟩ = some (.slice A0_5 l0_5.length c0_5) := (blk_cell BK125.out 5).trans rfl; have hfz11_0 := blk_frozen BK125.out 0; have hfz11_1 := blk_frozen BK125.out 1; have hfz11_2 := blk_frozen BK125.out 2; have hfz11_3 := blk_frozen BK125.out 3; have hfz11_4 := blk_frozen BK125.out 4; have hfz11_5 := blk_frozen BK125.out 5))
    go_loopg [3, 4] k (fun kq v3 v4 w' => ∃ (x3_1 : List (S34)) (x4_1 : Int), v4 = .int .i64 x4_1 ∧ Aside0 (usherref10_Copy.l0 kq x3_1 x4_1 a0_0 a0_1 a0_2 a0_3 y130 l0_5 = some (r1, r2, r3, r4, r5, r6)) ∧ Aside0 (kq ≤ k) ∧ Aside0 (Kd.R k34 34 w' w.heap.size (fun _ => True) v3 x3_1) ∧ Aside0 (Kd.R k31 31 w' w.heap.size (fun _ => True) (.slice Ao10 y130.length co10) y130) ∧ Aside0 (w'.heap[gb125]? = some (.cells #[.int .i64 a0_0, .int .i64 a0_1, .int .i64 a0_2, .int .i64 a0_3, (.slice Ao10 y130.length co10), (.slice A0_5 l0_5.length c0_5)] 25 (0, 0))) ∧ Aside0 (w'.heap[gb126]? = some (.cells #[.int .i64 0, .int .i64 0, .int .i64 0, .int .i64 0, (.slice none 0 0), (.slice none 0 0)] 25 (0, 0))) ∧ Aside0 (Below w.heap.size w w'))
    case atStart => exact ⟨(([] : List (S34))), (0), (by first | rfl | (simp; done) | (simp [*]; done)), H', ⟨Nat.le_refl _⟩, ⟨by first | exact Kd.R_nil _ _ _ _ _ | exact Kd.N_nil _ _ _ _ _ | exact Kd.V_nil _ _ _ _ _ | exact Kd.Q_nil _ _ _ _ _ | exact Kd.S_nil _ _ _ _ _⟩, ⟨by (with_reducible repeat (first | apply Kd.R_alloc | apply Kd.R_drewN | apply Kd.R_drew)); exact Kd.R_mono (Kd.R_far (p := ⟨gb125, 4, none⟩) (Kd.R_types HO132.out BK125.out (by decide)) (fun _ hk => hk.2) (.slice Ao10 y130.length co10)) (fun _ hk => trivial)⟩, ⟨by (with_reducible repeat (first | refine blk_drewN ?_ _ | refine blk_drew ?_ | refine blk_alloc ?_ _)); refine blk_put (cs := #[.int .i64 a0_0, .int .i64 a0_1, .int .i64 a0_2, .int .i64 a0_3, .slice A0_4 l0_4.length c0_4, .slice A0_5 l0_5.length c0_5]) ?_ 4 _ rfl; (with_reducible repeat (first | refine blk_drewN ?_ _ | refine blk_drew ?_ | refine blk_alloc ?_ _)); exact BK125.out⟩, ⟨by (with_reducible repeat (first | refine blk_drewN ?_ _ | refine blk_drew ?_ | refine blk_alloc ?_ _)); refine blk_far ?_ NB126_125.out _; (with_reducible repeat (first | refine blk_drewN ?_ _ | refine blk_drew ?_ | refine blk_alloc ?_ _)); exact BK126.out⟩, ⟨by repeat (first | (with_reducible first | exact HB.out | apply below_alloc | apply pw_below_drewN | apply below_drew1 | refine below_set ?_ GE125.out | refine below_set ?_ GE126.out) | exact HB.out)⟩⟩
    case round =>
      clear H'
      try clear c1
      try clear c2
      try clear p2
      try clear c7
      try clear hcz11_0
      try clear hcz11_1
      try clear hcz11_2
      try clear hcz11_3
      try clear hcz11_4
      try clear hcz11_5
      try clear hcz8_0
      try clear hcz8_1
      try clear hcz8_2
      try clear hcz8_3
      try clear hcz8_4
      try clear hcz8_5
      try clear hfz11_0
      try clear hfz11_1
      try clear hfz11_2
      try clear hfz11_3
      try clear hfz11_4
      try clear hfz11_5
      try clear hfz8_0
      try clear hfz8_1
      try clear hfz8_2
      try clear hfz8_3
      try clear hfz8_4
      try clear hfz8_5
      obtain ⟨x3_1, x4_1, rfl, HA, HK1, HO_3, HO_126004, BK125, BK126, HB⟩ := hrel
      cases gk with
      | zero => exact absurd HA.out (by simp [usherref10_Copy.l0])
      | succ k1 =>
        have H := HA.out
        clear HA
        simp only [usherref10_Copy.l0] at H
        by_cases c12 : x4_1 < (l0_5.length : Int)
        · rw [if_pos c12] at H
          have c12b0 : decide (x4_1 < (l0_5.length : Int)) = true := decide_eq_true c12
          clear c12
          by_cases c13 : 0 ≤ x4_1
          · rw [if_pos c13] at H
            have c13b0 : decide (0 ≤ x4_1) = true := decide_eq_true c13
            clear c13
            have H' := Aside0.mk H
            clear H
            have hnb14 := NB125_126.out
            have hnc14 := NB126_125.out
            have hcz15_0 : wr.cell? ⟨gb125, 0, none⟩ = some (.int .i64 a0_0) := (blk_cell BK125.out 0).trans rfl
            have hcz15_1 : wr.cell? ⟨gb125, 1, none⟩ = some (.int .i64 a0_1) := (blk_cell BK125.out 1).trans rfl
            have hcz15_2 : wr.cell? ⟨gb125, 2, none⟩ = some (.int .i64 a0_2) := (blk_cell BK125.out 2).trans rfl
            have hcz15_3 : wr.cell? ⟨gb125, 3, none⟩ = some (.int .i64 a0_3) := (blk_cell BK125.out 3).trans rfl
            have hcz15_4 : wr.cell? ⟨gb125, 4, none⟩ = some (.slice Ao10 y130.length co10) := (blk_cell BK125.out 4).trans rfl
            have hcz15_5 : wr.cell? ⟨gb125, 5, none⟩ = some (.slice A0_5 l0_5.length c0_5) := (blk_cell BK125.out 5).trans rfl
            have hfz15_0 := blk_frozen BK125.out 0
            have hfz15_1 := blk_frozen BK125.out 1
            have hfz15_2 := blk_frozen BK125.out 2
            have hfz15_3 := blk_frozen BK125.out 3
            have hfz15_4 := blk_frozen BK125.out 4
            have hfz15_5 := blk_frozen BK125.out 5
            have p133 : 0 ≤ (x4_1 : Int) := of_decide_eq_true (by first | (with_reducible assumption) | assumption)
            have q133 : x4_1 < (l0_5.length : Int) := of_decide_eq_true (by first | (with_reducible assumption) | assumption)
            obtain ⟨ad133, A133_4, c133_4, e133, hx133_0, hx133_1, hx133_2, hx133_3, hx133_4, hl133_4, hi133_4⟩ := at_T34 HR0_5.out x4_1 p133 q133
            cases e133
            replace hx133_0 := (HB.out.cell (World.block_lt_of_cell? w _ hx133_0)).trans hx133_0
            replace hx133_1 := (HB.out.cell (World.block_lt_of_cell? w _ hx133_1)).trans hx133_1
            replace hx133_2 := (HB.out.cell (World.block_lt_of_cell? w _ hx133_2)).trans hx133_2
            replace hx133_3 := (HB.out.cell (World.block_lt_of_cell? w _ hx133_3)).trans hx133_3
            replace hx133_4 := (HB.out.cell (World.block_lt_of_cell? w _ hx133_4)).trans hx133_4
            have HR133_4 := Aside0.mk hi133_4
            have HC133_4 := Aside0.mk hl133_4
            clear hi133_4 hl133_4
            replace p133 := eq_true p133
            replace q133 := eq_true q133
            go_wp2_with (first | ((with_reducible refine gate_dst (N := 5) rfl ?_); refine box_event ?hg (N := 5) ?hd (cs := #[.string (⟨#[]⟩ : ByteArray), .string (⟨#[]⟩ : ByteArray), .int .i64 0, .int .i64 0, .slice none 0 0]) (t := 34) ?hr ?_; (case hd => rfl); (case hg => rfl); (case hr => first | (go_simp; done) | (go_simp; rfl)); intro gb134 hg w16 hbox hb; have n0_ := Aside0.mk (Kd.R_below (Kd.R_elderB (by (with_reducible repeat (first | apply Kd.R_alloc | apply Kd.R_drewN | apply Kd.R_drew)); exact HO_3.out) gb134 (Nat.le_of_eq hg.symm)) hb); have n1_ := Aside0.mk (Kd.R_below (by (with_reducible repeat (first | apply Kd.R_alloc | apply Kd.R_drewN | apply Kd.R_drew)); exact HO_126004.out) hb); have n2_ := Aside0.mk (blk_below (g := gb125) (o := .cells #[.int .i64 a0_0, .int .i64 a0_1, .int .i64 a0_2, .int .i64 a0_3, .slice Ao10 y130.length co10, .slice (some ad133) l0_5.length c0_5] 25 (0, 0)) (by (with_reducible repeat (first | refine blk_drewN ?_ _ | refine blk_drew ?_ | refine blk_alloc ?_ _)); exact BK125.out) hb); have n3_ := Aside0.mk (blk_below (g := gb126) (o := .cells #[.int .i64 0, .int .i64 0, .int .i64 0, .int .i64 0, .slice none 0 0, .slice none 0 0] 25 (0, 0)) (by (with_reducible repeat (first | refine blk_drewN ?_ _ | refine blk_drew ?_ | refine blk_alloc ?_ _)); exact BK126.out) hb); have n4_ := Aside0.mk (below_step (by repeat (first | (with_reducible first | exact HB.out | apply below_alloc | apply pw_below_drewN | apply below_drew1 | refine below_set ?_ GE125.out | refine below_set ?_ GE126.out) | exact HB.out)) hb); have n5_ := Aside0.mk (hbox); have n6_ := Aside0.mk ((by rw [hg]; exact (below_size (by repeat (first | (with_reducible first | exact HB.out | apply below_alloc | apply pw_below_drewN | apply below_drew1 | refine below_set ?_ GE125.out | refine below_set ?_ GE126.out) | exact HB.out))) : w.heap.size ≤ gb134)); have n7_ := Aside0.mk ((by rw [hg]; exact (below_size (by repeat (first | (with_reducible first | exact HB.out | apply below_alloc | apply pw_below_drewN | apply below_drew1 | refine below_set ?_ GE125.out | refine below_set ?_ GE126.out) | exact HB.out))) : w.heap.size ≤ gb134)); have n8_ := Aside0.mk ((by rw [hg]; exact Nat.ne_of_lt (blk_lt (g := gb125) (o := .cells #[.int .i64 a0_0, .int .i64 a0_1, .int .i64 a0_2, .int .i64 a0_3, .slice Ao10 y130.length co10, .slice (some ad133) l0_5.length c0_5] 25 (0, 0)) (by (with_reducible repeat (first | refine blk_drewN ?_ _ | refine blk_drew ?_ | refine blk_alloc ?_ _)); exact BK125.out)) : gb125 ≠ gb134)); have n9_ := Aside0.mk ((by rw [hg]; exact Nat.ne_of_gt (blk_lt (g := gb125) (o := .cells #[.int .i64 a0_0, .int .i64 a0_1, .int .i64 a0_2, .int .i64 a0_3, .slice Ao10 y130.length co10, .slice (some ad133) l0_5.length c0_5] 25 (0, 0)) (by (with_reducible repeat (first | refine blk_drewN ?_ _ | refine blk_drew ?_ | refine blk_alloc ?_ _)); exact BK125.out)) : gb134 ≠ gb125)); have n10_ := Aside0.mk ((by rw [hg]; exact Nat.ne_of_lt (blk_lt (g := gb126) (o := .cells #[.int .i64 0, .int .i64 0, .int .i64 0, .int .i64 0, .slice none 0 0, .slice none 0 0] 25 (0, 0)) (by (with_reducible repeat (first | refine blk_drewN ?_ _ | refine blk_drew ?_ | refine blk_alloc ?_ _)); exact BK126.out)) : gb126 ≠ gb134)); have n11_ := Aside0.mk ((by rw [hg]; exact Nat.ne_of_gt (blk_lt (g := gb126) (o := .cells #[.int .i64 0, .int .i64 0, .int .i64 0, .int .i64 0, .slice none 0 0, .slice none 0 0] 25 (0, 0)) (by (with_reducible repeat (first | refine blk_drewN ?_ _ | refine blk_drew ?_ | refine blk_alloc ?_ _)); exact BK126.out)) : gb134 ≠ gb126)); clear HO_3; clear HO_126004; clear BK125; clear BK126; clear HB; have HO_3 := n0_; have HO_126004 := n1_; have BK125 := n2_; have BK126 := n3_; have HB := n4_; have BK134 := n5_; have GW134 := n6_; have GE134 := n7_; have NB125_134 := n8_; have NB134_125 := n9_; have NB126_134 := n10_; have NB134_126 := n11_; clear n0_ n1_ n2_ n3_ n4_ n5_ n6_ n7_ n8_ n9_ n10_ n11_; clear hb hbox hg; have hnb17 := NB134_125.out; have hnc17 := NB125_134.out; have hnb18 := NB134_126.out; have hnc18 := NB126_134.out; have hcz19_0 : w16.cell? ⟨gb134, 0, none⟩ = some (.string (⟨#[]⟩ : ByteArray)) := (blk_cell BK134.out 0).trans rfl; have hcz19_1 : w16.cell? ⟨gb134, 1, none⟩ = some (.string (⟨#[]⟩ : ByteArray)) := (blk_cell BK134.out 1).trans rfl; have hcz19_2 : w16.cell? ⟨gb134, 2, none⟩ = some (.int .i64 0) := (blk_cell BK134.out 2).trans rfl; have hcz19_3 : w16.cell? ⟨gb134, 3, none⟩ = some (.int .i64 0) := (blk_cell BK134.out 3).trans rfl; have hcz19_4 : w16.cell? ⟨gb134, 4, none⟩ = some (.slice none 0 0) := (blk_cell BK134.out 4).trans rfl; have hfz19_0 := blk_frozen BK134.out 0; have hfz19_1 := blk_frozen BK134.out 1; have hfz19_2 := blk_frozen BK134.out 2; have hfz19_3 := blk_frozen BK134.out 3; have hfz19_4 := blk_frozen BK134.out 4))
            go_loopg [6, 7] k1 (fun kq v6 v7 w' => ∃ (x6_2 : List (S37)) (x7_2 : Int), v7 = .int .i64 x7_2 ∧ Aside0 (usherref10_Copy.l1 kq x3_1 x4_1 x6_2 x7_2 a0_0 a0_1 a0_2 a0_3 y130 l0_5 ((rd_T34 l0_5 x4_1).f0) ((rd_T34 l0_5 x4_1).f1) ((rd_T34 l0_5 x4_1).f2) ((rd_T34 l0_5 x4_1).f3) ((rd_T34 l0_5 x4_1).f4) = some (r1, r2, r3, r4, r5, r6)) ∧ Aside0 (kq ≤ k1) ∧ Aside0 (Kd.R k34 34 w' w.heap.size (fun k_ => some k_ ≠ (v6 : Value).ownBlock ∧ k_ ≠ gb134) u3 x3_1) ∧ Aside0 (Kd.S k37 37 w' w.heap.size (fun _ => True) v6 x6_2) ∧ Aside0 (Kd.R k31 31 w' w.heap.size (fun _ => True) (.slice Ao10 y130.length co10) y130) ∧ Aside0 (w'.heap[gb125]? = some (.cells #[.int .i64 a0_0, .int .i64 a0_1, .int .i64 a0_2, .int .i64 a0_3, (.slice Ao10 y130.length co10), (.slice (some ad133) l0_5.length c0_5)] 25 (0, 0))) ∧ Aside0 (w'.heap[gb126]? = some (.cells #[.int .i64 0, .int .i64 0, .int .i64 0, .int .i64 0, (.slice none 0 0), (.slice none 0 0)] 25 (0, 0))) ∧ Aside0 (w'.heap[gb134]? = some (.cells #[.string ((rd_T34 l0_5 x4_1).f0), .string ((rd_T34 l0_5 x4_1).f1), .int .i64 ((rd_T34 l0_5 x4_1).f2), .int .i64 ((rd_T34 l0_5 x4_1).f3), (.slice A133_4 ((rd_T34 l0_5 x4_1).f4).length c133_4)] 34 (0, 0))) ∧ Aside0 (Below w.heap.size w w'))
            case atStart => exact ⟨(([] : List (S37))), (0), (by first | rfl | (simp; done) | (simp [*]; done)), H', ⟨Nat.le_refl _⟩, ⟨by (with_reducible repeat (first | apply Kd.R_alloc | apply Kd.R_drewN | apply Kd.R_drew)); exact Kd.R_mono (Kd.R_far (p := ⟨gb134, 4, none⟩) (Kd.R_far (p := ⟨gb134, 3, none⟩) (Kd.R_far (p := ⟨gb134, 2, none⟩) (Kd.R_far (p := ⟨gb134, 1, none⟩) (Kd.R_far (p := ⟨gb134, 0, none⟩) (Kd.R_mono HO_3.out (fun k_ hk => (⟨hk, hk.2⟩ : _ ∧ k_ ≠ gb134))) (fun _ hk => hk.2) (.string ((rd_T34 l0_5 x4_1).f0))) (fun _ hk => hk.2) (.string ((rd_T34 l0_5 x4_1).f1))) (fun _ hk => hk.2) (.int .i64 ((rd_T34 l0_5 x4_1).f2))) (fun _ hk => hk.2) (.int .i64 ((rd_T34 l0_5 x4_1).f3))) (fun _ hk => hk.2) (.slice A133_4 ((rd_T34 l0_5 x4_1).f4).length c133_4)) (fun _ hk => ⟨(by simp [Value.ownBlock]), hk.1.2⟩)⟩, ⟨by first | exact Kd.S_nil _ _ _ _ _ | exact Kd.N_nil _ _ _ _ _ | exact Kd.V_nil _ _ _ _ _ | exact Kd.Q_nil _ _ _ _ _ | exact Kd.R_nil _ _ _ _ _⟩, ⟨by (with_reducible repeat (first | apply Kd.R_alloc | apply Kd.R_drewN | apply Kd.R_drew)); exact Kd.R_mono (Kd.R_far (p := ⟨gb134, 4, none⟩) (Kd.R_far (p := ⟨gb134, 3, none⟩) (Kd.R_far (p := ⟨gb134, 2, none⟩) (Kd.R_far (p := ⟨gb134, 1, none⟩) (Kd.R_far (p := ⟨gb134, 0, none⟩) (Kd.R_types HO_126004.out BK134.out (by decide)) (fun _ hk => hk.2) (.string ((rd_T34 l0_5 x4_1).f0))) (fun _ hk => hk.2) (.string ((rd_T34 l0_5 x4_1).f1))) (fun _ hk => hk.2) (.int .i64 ((rd_T34 l0_5 x4_1).f2))) (fun _ hk => hk.2) (.int .i64 ((rd_T34 l0_5 x4_1).f3))) (fun _ hk => hk.2) (.slice A133_4 ((rd_T34 l0_5 x4_1).f4).length c133_4)) (fun _ hk => trivial)⟩, ⟨by (with_reducible repeat (first | refine blk_drewN ?_ _ | refine blk_drew ?_ | refine blk_alloc ?_ _)); refine blk_far ?_ NB125_134.out _; (with_reducible repeat (first | refine blk_drewN ?_ _ | refine blk_drew ?_ | refine blk_alloc ?_ _)); refine blk_far ?_ NB125_134.out _; (with_reducible repeat (first | refine blk_drewN ?_ _ | refine blk_drew ?_ | refine blk_alloc ?_ _)); refine blk_far ?_ NB125_134.out _; (with_reducible repeat (first | refine blk_drewN ?_ _ | refine blk_drew ?_ | refine blk_alloc ?_ _)); refine blk_far ?_ NB125_134.out _; (with_reducible repeat (first | refine blk_drewN ?_ _ | refine blk_drew ?_ | refine blk_alloc ?_ _)); refine blk_far ?_ NB125_134.out _; (with_reducible repeat (first | refine blk_drewN ?_ _ | refine blk_drew ?_ | refine blk_alloc ?_ _)); exact BK125.out⟩, ⟨by (with_reducible repeat (first | refine blk_drewN ?_ _ | refine blk_drew ?_ | refine blk_alloc ?_ _)); refine blk_far ?_ NB126_134.out _; (with_reducible repeat (first | refine blk_drewN ?_ _ | refine blk_drew ?_ | refine blk_alloc ?_ _)); refine blk_far ?_ NB126_134.out _; (with_reducible repeat (first | refine blk_drewN ?_ _ | refine blk_drew ?_ | refine blk_alloc ?_ _)); refine blk_far ?_ NB126_134.out _; (with_reducible repeat (first | refine blk_drewN ?_ _ | refine blk_drew ?_ | refine blk_alloc ?_ _)); refine blk_far ?_ NB126_134.out _; (with_reducible repeat (first | refine blk_drewN ?_ _ | refine blk_drew ?_ | refine blk_alloc ?_ _)); refine blk_far ?_ NB126_134.out _; (with_reducible repeat (first | refine blk_drewN ?_ _ | refine blk_drew ?_ | refine blk_alloc ?_ _)); exact BK126.out⟩, ⟨by (with_reducible repeat (first | refine blk_drewN ?_ _ | refine blk_drew ?_ | refine blk_alloc ?_ _)); refine blk_put (cs := #[.string ((rd_T34 l0_5 x4_1).f0), .string ((rd_T34 l0_5 x4_1).f1), .int .i64 ((rd_T34 l0_5 x4_1).f2), .int .i64 ((rd_T34 l0_5 x4_1).f3), .slice none 0 0]) ?_ 4 _ rfl; (with_reducible repeat (first | refine blk_drewN ?_ _ | refine blk_drew ?_ | refine blk_alloc ?_ _)); refine blk_put (cs := #[.string ((rd_T34 l0_5 x4_1).f0), .string ((rd_T34 l0_5 x4_1).f1), .int .i64 ((rd_T34 l0_5 x4_1).f2), .int .i64 0, .slice none 0 0]) ?_ 3 _ rfl; (with_reducible repeat (first | refine blk_drewN ?_ _ | refine blk_drew ?_ | refine blk_alloc ?_ _)); refine blk_put (cs := #[.string ((rd_T34 l0_5 x4_1).f0), .string ((rd_T34 l0_5 x4_1).f1), .int .i64 0, .int .i64 0, .slice none 0 0]) ?_ 2 _ rfl; (with_reducible repeat (first | refine blk_drewN ?_ _ | refine blk_drew ?_ | refine blk_alloc ?_ _)); refine blk_put (cs := #[.string ((rd_T34 l0_5 x4_1).f0), .string (⟨#[]⟩ : ByteArray), .int .i64 0, .int .i64 0, .slice none 0 0]) ?_ 1 _ rfl; (with_reducible repeat (first | refine blk_drewN ?_ _ | refine blk_drew ?_ | refine blk_alloc ?_ _)); refine blk_put (cs := #[.string (⟨#[]⟩ : ByteArray), .string (⟨#[]⟩ : ByteArray), .int .i64 0, .int .i64 0, .slice none 0 0]) ?_ 0 _ rfl; (with_reducible repeat (first | refine blk_drewN ?_ _ | refine blk_drew ?_ | refine blk_alloc ?_ _)); exact BK134.out⟩, ⟨by repeat (first | (with_reducible first | exact HB.out | apply below_alloc | apply pw_below_drewN | apply below_drew1 | refine below_set ?_ GE125.out | refine below_set ?_ GE126.out | refine below_set ?_ GE134.out) | exact HB.out)⟩⟩
            case round =>
              clear H'
              try clear c1
              try clear p1
              try clear q1
              try clear hx1
              try clear c2
              try clear p2
              try clear c7
              try clear c12
              try clear c12b0
              try clear c13
              try clear c13b0
              try clear p13
              try clear q13
              try clear hx13
              try clear c14
              try clear c17
              try clear c18
              try clear hcz11_0
              try clear hcz11_1
              try clear hcz11_2
              try clear hcz11_3
              try clear hcz11_4
              try clear hcz11_5
              try clear hcz15_0
              try clear hcz15_1
              try clear hcz15_2
              try clear hcz15_3
              try clear hcz15_4
              try clear hcz15_5
              try clear hcz19_0
              try clear hcz19_1
              try clear hcz19_2
              try clear hcz19_3
              try clear hcz19_4
              try clear hcz8_0
              try clear hcz8_1
              try clear hcz8_2
              try clear hcz8_3
              try clear hcz8_4
              try clear hcz8_5
              try clear hfz11_0
              try clear hfz11_1
              try clear hfz11_2
              try clear hfz11_3
              try clear hfz11_4
              try clear hfz11_5
              try clear hfz15_0
              try clear hfz15_1
              try clear hfz15_2
              try clear hfz15_3
              try clear hfz15_4
              try clear hfz15_5
              try clear hfz19_0
              try clear hfz19_1
              try clear hfz19_2
              try clear hfz19_3
              try clear hfz19_4
              try clear hfz8_0
              try clear hfz8_1
              try clear hfz8_2
              try clear hfz8_3
              try clear hfz8_4
              try clear hfz8_5
              try clear hx133_0
              try clear hx133_1
              try clear hx133_2
              try clear hx133_3
              try clear hx133_4
              try clear p133
              try clear p2
              try clear q133
              obtain ⟨x6_2, x7_2, rfl, HA, HK2, HO_3, HO_6, HO_126004, BK125, BK126, BK134, HB⟩ := hrel
              cases gk with
              | zero => exact absurd HA.out (by simp [usherref10_Copy.l1])
              | succ k2 =>
                have H := HA.out
                clear HA
                simp only [usherref10_Copy.l1] at H
                by_cases c20 : x7_2 < (((rd_T34 l0_5 x4_1).f4).length : Int)
                · rw [if_pos c20] at H
                  have c20b0 : decide (x7_2 < (((rd_T34 l0_5 x4_1).f4).length : Int)) = true := decide_eq_true c20
                  clear c20
                  by_cases c21 : 0 ≤ x7_2
                  · rw [if_pos c21] at H
                    have c21b0 : decide (0 ≤ x7_2) = true := decide_eq_true c21
                    clear c21
                    replace H := Option.bind_eq_some_iff.mp H
                    obtain ⟨t140, A220, H⟩ := H
                    replace H : ((usherref10_words.f ((rd_T37 ((rd_T34 l0_5 x4_1).f4) x7_2).f1)).bind fun t143 => ((usherref10_words.f ((rd_T37 ((rd_T34 l0_5 x4_1).f4) x7_2).f2)).bind fun t146 => ((usherref10_words.f ((rd_T37 ((rd_T34 l0_5 x4_1).f4) x7_2).f3)).bind fun t149 => ((usherref10_words.f ((rd_T37 ((rd_T34 l0_5 x4_1).f4) x7_2).f4)).bind fun t152 => (if x6_2.length < 1172812402961 then (usherref10_Copy.l1 k2 x3_1 x4_1 (x6_2 ++ [(⟨t140, t143, t146, t149, t152⟩ : S37)]) (wrap64 (x7_2 + 1)) a0_0 a0_1 a0_2 a0_3 y130 l0_5 ((rd_T34 l0_5 x4_1).f0) ((rd_T34 l0_5 x4_1).f1) ((rd_T34 l0_5 x4_1).f2) ((rd_T34 l0_5 x4_1).f3) ((rd_T34 l0_5 x4_1).f4)) else (none)))))) = some (r1, r2, r3, r4, r5, r6) := H
                    have A22 := Aside0.mk A220
                    clear A220
                    replace H := Option.bind_eq_some_iff.mp H
                    obtain ⟨t143, A230, H⟩ := H
                    replace H : ((usherref10_words.f ((rd_T37 ((rd_T34 l0_5 x4_1).f4) x7_2).f2)).bind fun t146 => ((usherref10_words.f ((rd_T37 ((rd_T34 l0_5 x4_1).f4) x7_2).f3)).bind fun t149 => ((usherref10_words.f ((rd_T37 ((rd_T34 l0_5 x4_1).f4) x7_2).f4)).bind fun t152 => (if x6_2.length < 1172812402961 then (usherref10_Copy.l1 k2 x3_1 x4_1 (x6_2 ++ [(⟨t140, t143, t146, t149, t152⟩ : S37)]) (wrap64 (x7_2 + 1)) a0_0 a0_1 a0_2 a0_3 y130 l0_5 ((rd_T34 l0_5 x4_1).f0) ((rd_T34 l0_5 x4_1).f1) ((rd_T34 l0_5 x4_1).f2) ((rd_T34 l0_5 x4_1).f3) ((rd_T34 l0_5 x4_1).f4)) else (none))))) = some (r1, r2, r3, r4, r5, r6) := H
                    have A23 := Aside0.mk A230
                    clear A230
                    replace H := Option.bind_eq_some_iff.mp H
                    obtain ⟨t146, A240, H⟩ := H
                    replace H : ((usherref10_words.f ((rd_T37 ((rd_T34 l0_5 x4_1).f4) x7_2).f3)).bind fun t149 => ((usherref10_words.f ((rd_T37 ((rd_T34 l0_5 x4_1).f4) x7_2).f4)).bind fun t152 => (if x6_2.length < 1172812402961 then (usherref10_Copy.l1 k2 x3_1 x4_1 (x6_2 ++ [(⟨t140, t143, t146, t149, t152⟩ : S37)]) (wrap64 (x7_2 + 1)) a0_0 a0_1 a0_2 a0_3 y130 l0_5 ((rd_T34 l0_5 x4_1).f0) ((rd_T34 l0_5 x4_1).f1) ((rd_T34 l0_5 x4_1).f2) ((rd_T34 l0_5 x4_1).f3) ((rd_T34 l0_5 x4_1).f4)) else (none)))) = some (r1, r2, r3, r4, r5, r6) := H
                    have A24 := Aside0.mk A240
                    clear A240
                    replace H := Option.bind_eq_some_iff.mp H
                    obtain ⟨t149, A250, H⟩ := H
                    replace H : ((usherref10_words.f ((rd_T37 ((rd_T34 l0_5 x4_1).f4) x7_2).f4)).bind fun t152 => (if x6_2.length < 1172812402961 then (usherref10_Copy.l1 k2 x3_1 x4_1 (x6_2 ++ [(⟨t140, t143, t146, t149, t152⟩ : S37)]) (wrap64 (x7_2 + 1)) a0_0 a0_1 a0_2 a0_3 y130 l0_5 ((rd_T34 l0_5 x4_1).f0) ((rd_T34 l0_5 x4_1).f1) ((rd_T34 l0_5 x4_1).f2) ((rd_T34 l0_5 x4_1).f3) ((rd_T34 l0_5 x4_1).f4)) else (none))) = some (r1, r2, r3, r4, r5, r6) := H
                    have A25 := Aside0.mk A250
                    clear A250
                    replace H := Option.bind_eq_some_iff.mp H
                    obtain ⟨t152, A260, H⟩ := H
                    replace H : (if x6_2.length < 1172812402961 then (usherref10_Copy.l1 k2 x3_1 x4_1 (x6_2 ++ [(⟨t140, t143, t146, t149, t152⟩ : S37)]) (wrap64 (x7_2 + 1)) a0_0 a0_1 a0_2 a0_3 y130 l0_5 ((rd_T34 l0_5 x4_1).f0) ((rd_T34 l0_5 x4_1).f1) ((rd_T34 l0_5 x4_1).f2) ((rd_T34 l0_5 x4_1).f3) ((rd_T34 l0_5 x4_1).f4)) else (none)) = some (r1, r2, r3, r4, r5, r6) := H
                    have A26 := Aside0.mk A260
                    clear A260
                    by_cases c27 : x6_2.length < 1172812402961
                    · rw [if_pos c27] at H
                      have LMc27 := Aside0.mk c27
                      clear c27
                      obtain ⟨y155, hy155⟩ : ∃ y_ : List (S37), y_ = (x6_2 ++ [(⟨t140, t143, t146, t149, t152⟩ : S37)]) := ⟨_, rfl⟩
                      replace H : (usherref10_Copy.l1 k2 x3_1 x4_1 y155 (wrap64 (x7_2 + 1)) a0_0 a0_1 a0_2 a0_3 y130 l0_5 ((rd_T34 l0_5 x4_1).f0) ((rd_T34 l0_5 x4_1).f1) ((rd_T34 l0_5 x4_1).f2) ((rd_T34 l0_5 x4_1).f3) ((rd_T34 l0_5 x4_1).f4)) = some (r1, r2, r3, r4, r5, r6) := by first | (rw [hy155]; with_reducible exact H) | (have H2_ := (Option.bind_some _ _).symm.trans H; rw [hy155]; with_reducible exact H2_) | (have H2_ := (Option.bind_some _ _).symm.trans H; with_reducible exact H2_) | with_reducible exact H | (rw [hy155]; exact H) | exact H
                      have Ny155 := Aside0.mk hy155
                      clear hy155
                      have H' := Aside0.mk H
                      clear H
                      have hnb28 := NB134_125.out
                      have hnc28 := NB125_134.out
                      have hnb29 := NB134_126.out
                      have hnc29 := NB126_134.out
                      have hcz30_0 : wr.cell? ⟨gb134, 0, none⟩ = some (.string ((rd_T34 l0_5 x4_1).f0)) := (blk_cell BK134.out 0).trans rfl
                      have hcz30_1 : wr.cell? ⟨gb134, 1, none⟩ = some (.string ((rd_T34 l0_5 x4_1).f1)) := (blk_cell BK134.out 1).trans rfl
                      have hcz30_2 : wr.cell? ⟨gb134, 2, none⟩ = some (.int .i64 ((rd_T34 l0_5 x4_1).f2)) := (blk_cell BK134.out 2).trans rfl
                      have hcz30_3 : wr.cell? ⟨gb134, 3, none⟩ = some (.int .i64 ((rd_T34 l0_5 x4_1).f3)) := (blk_cell BK134.out 3).trans rfl
                      have hcz30_4 : wr.cell? ⟨gb134, 4, none⟩ = some (.slice A133_4 ((rd_T34 l0_5 x4_1).f4).length c133_4) := (blk_cell BK134.out 4).trans rfl
                      have hfz30_0 := blk_frozen BK134.out 0
                      have hfz30_1 := blk_frozen BK134.out 1
                      have hfz30_2 := blk_frozen BK134.out 2
                      have hfz30_3 := blk_frozen BK134.out 3
                      have hfz30_4 := blk_frozen BK134.out 4
                      have p138 : 0 ≤ (x7_2 : Int) := of_decide_eq_true (by first | (with_reducible assumption) | assumption)
                      have q138 : x7_2 < (((rd_T34 l0_5 x4_1).f4).length : Int) := of_decide_eq_true (by first | (with_reducible assumption) | assumption)
                      obtain ⟨ad138, A138_0, c138_0, A138_1, c138_1, A138_2, c138_2, A138_3, c138_3, A138_4, c138_4, e138, hx138_0, hx138_1, hx138_2, hx138_3, hx138_4, hl138_0, hi138_0, hl138_1, hi138_1, hl138_2, hi138_2, hl138_3, hi138_3, hl138_4, hi138_4⟩ := at_T37 HR133_4.out x7_2 p138 q138
                      cases e138
                      replace hx138_0 := (HB.out.cell (World.block_lt_of_cell? w _ hx138_0)).trans hx138_0
                      replace hx138_1 := (HB.out.cell (World.block_lt_of_cell? w _ hx138_1)).trans hx138_1
                      replace hx138_2 := (HB.out.cell (World.block_lt_of_cell? w _ hx138_2)).trans hx138_2
                      replace hx138_3 := (HB.out.cell (World.block_lt_of_cell? w _ hx138_3)).trans hx138_3
                      replace hx138_4 := (HB.out.cell (World.block_lt_of_cell? w _ hx138_4)).trans hx138_4
                      have HR138_0 := Aside0.mk hi138_0
                      have HC138_0 := Aside0.mk hl138_0
                      clear hi138_0 hl138_0
                      have HR138_1 := Aside0.mk hi138_1
                      have HC138_1 := Aside0.mk hl138_1
                      clear hi138_1 hl138_1
                      have HR138_2 := Aside0.mk hi138_2
                      have HC138_2 := Aside0.mk hl138_2
                      clear hi138_2 hl138_2
                      have HR138_3 := Aside0.mk hi138_3
                      have HC138_3 := Aside0.mk hl138_3
                      clear hi138_3 hl138_3
                      have HR138_4 := Aside0.mk hi138_4
                      have HC138_4 := Aside0.mk hl138_4
                      clear hi138_4 hl138_4
                      replace p138 := eq_true p138
                      replace q138 := eq_true q138
                      try go_wp2_with (first | ((with_reducible refine gate_dst (N := 8) rfl ?_); refine box_event ?hg (N := 8) ?hd (cs := #[.slice none 0 0, .slice none 0 0, .slice none 0 0, .slice none 0 0, .slice none 0 0]) (t := 37) ?hr ?_; (case hd => rfl); (case hg => rfl); (case hr => first | (go_simp; done) | (go_simp; rfl)); intro gb139 hg w31 hbox hb; have n0_ := Aside0.mk (Kd.R_below (Kd.R_elderB (by (with_reducible repeat (first | apply Kd.R_alloc | apply Kd.R_drewN | apply Kd.R_drew)); exact HO_3.out) gb139 (Nat.le_of_eq hg.symm)) hb); have n1_ := Aside0.mk (Kd.S_below (Kd.S_elderB (by (with_reducible repeat (first | apply Kd.S_alloc | apply Kd.S_drewN | apply Kd.S_drew)); exact HO_6.out) gb139 (Nat.le_of_eq hg.symm)) hb); have n2_ := Aside0.mk (Kd.R_below (by (with_reducible repeat (first | apply Kd.R_alloc | apply Kd.R_drewN | apply Kd.R_drew)); exact HO_126004.out) hb); have n3_ := Aside0.mk (blk_below (g := gb125) (o := .cells #[.int .i64 a0_0, .int .i64 a0_1, .int .i64 a0_2, .int .i64 a0_3, .slice Ao10 y130.length co10, .slice (some ad133) l0_5.length c0_5] 25 (0, 0)) (by (with_reducible repeat (first | refine blk_drewN ?_ _ | refine blk_drew ?_ | refine blk_alloc ?_ _)); exact BK125.out) hb); have n4_ := Aside0.mk (blk_below (g := gb126) (o := .cells #[.int .i64 0, .int .i64 0, .int .i64 0, .int .i64 0, .slice none 0 0, .slice none 0 0] 25 (0, 0)) (by (with_reducible repeat (first | refine blk_drewN ?_ _ | refine blk_drew ?_ | refine blk_alloc ?_ _)); exact BK126.out) hb); have n5_ := Aside0.mk (blk_below (g := gb134) (o := .cells #[.string ((rd_T34 l0_5 x4_1).f0), .string ((rd_T34 l0_5 x4_1).f1), .int .i64 ((rd_T34 l0_5 x4_1).f2), .int .i64 ((rd_T34 l0_5 x4_1).f3), .slice (some ad138) ((rd_T34 l0_5 x4_1).f4).length c133_4] 34 (0, 0)) (by (with_reducible repeat (first | refine blk_drewN ?_ _ | refine blk_drew ?_ | refine blk_alloc ?_ _)); exact BK134.out) hb); have n6_ := Aside0.mk (below_step (by repeat (first | (with_reducible first | exact HB.out | apply below_alloc | apply pw_below_drewN | apply below_drew1 | refine below_set ?_ GE125.out | refine below_set ?_ GE126.out | refine below_set ?_ GE134.out) | exact HB.out)) hb); have n7_ := Aside0.mk (hbox); have n8_ := Aside0.mk ((by rw [hg]; exact (below_size (by repeat (first | (with_reducible first | exact HB.out | apply below_alloc | apply pw_below_drewN | apply below_drew1 | refine below_set ?_ GE125.out | refine below_set ?_ GE126.out | refine below_set ?_ GE134.out) | exact HB.out))) : w.heap.size ≤ gb139)); have n9_ := Aside0.mk ((by rw [hg]; exact (below_size (by repeat (first | (with_reducible first | exact HB.out | apply below_alloc | apply pw_below_drewN | apply below_drew1 | refine below_set ?_ GE125.out | refine below_set ?_ GE126.out | refine below_set ?_ GE134.out) | exact HB.out))) : w.heap.size ≤ gb139)); have n10_ := Aside0.mk ((by rw [hg]; exact Nat.ne_of_lt (blk_lt (g := gb125) (o := .cells #[.int .i64 a0_0, .int .i64 a0_1, .int .i64 a0_2, .int .i64 a0_3, .slice Ao10 y130.length co10, .slice (some ad133) l0_5.length c0_5] 25 (0, 0)) (by (with_reducible repeat (first | refine blk_drewN ?_ _ | refine blk_drew ?_ | refine blk_alloc ?_ _)); exact BK125.out)) : gb125 ≠ gb139)); have n11_ := Aside0.mk ((by rw [hg]; exact Nat.ne_of_gt (blk_lt (g := gb125) (o := .cells #[.int .i64 a0_0, .int .i64 a0_1, .int .i64 a0_2, .int .i64 a0_3, .slice Ao10 y130.length co10, .slice (some ad133) l0_5.length c0_5] 25 (0, 0)) (by (with_reducible repeat (first | refine blk_drewN ?_ _ | refine blk_drew ?_ | refine blk_alloc ?_ _)); exact BK125.out)) : gb139 ≠ gb125)); have n12_ := Aside0.mk ((by rw [hg]; exact Nat.ne_of_lt (blk_lt (g := gb126) (o := .cells #[.int .i64 0, .int .i64 0, .int .i64 0, .int .i64 0, .slice none 0 0, .slice none 0 0] 25 (0, 0)) (by (with_reducible repeat (first | refine blk_drewN ?_ _ | refine blk_drew ?_ | refine blk_alloc ?_ _)); exact BK126.out)) : gb126 ≠ gb139)); have n13_ := Aside0.mk ((by rw [hg]; exact Nat.ne_of_gt (blk_lt (g := gb126) (o := .cells #[.int .i64 0, .int .i64 0, .int .i64 0, .int .i64 0, .slice none 0 0, .slice none 0 0] 25 (0, 0)) (by (with_reducible repeat (first | refine blk_drewN ?_ _ | refine blk_drew ?_ | refine blk_alloc ?_ _)); exact BK126.out)) : gb139 ≠ gb126)); have n14_ := Aside0.mk ((by rw [hg]; exact Nat.ne_of_lt (blk_lt (g := gb134) (o := .cells #[.string ((rd_T34 l0_5 x4_1).f0), .string ((rd_T34 l0_5 x4_1).f1), .int .i64 ((rd_T34 l0_5 x4_1).f2), .int .i64 ((rd_T34 l0_5 x4_1).f3), .slice (some ad138) ((rd_T34 l0_5 x4_1).f4).length c133_4] 34 (0, 0)) (by (with_reducible repeat (first | refine blk_drewN ?_ _ | refine blk_drew ?_ | refine blk_alloc ?_ _)); exact BK134.out)) : gb134 ≠ gb139)); have n15_ := Aside0.mk ((by rw [hg]; exact Nat.ne_of_gt (blk_lt (g := gb134) (o := .cells #[.string ((rd_T34 l0_5 x4_1).f0), .string ((rd_T34 l0_5 x4_1).f1), .int .i64 ((rd_T34 l0_5 x4_1).f2), .int .i64 ((rd_T34 l0_5 x4_1).f3), .slice (some ad138) ((rd_T34 l0_5 x4_1).f4).length c133_4] 34 (0, 0)) (by (with_reducible repeat (first | refine blk_drewN ?_ _ | refine blk_drew ?_ | refine blk_alloc ?_ _)); exact BK134.out)) : gb139 ≠ gb134)); clear HO_3; clear HO_6; clear HO_126004; clear BK125; clear BK126; clear BK134; clear HB; have HO_3 := n0_; have HO_6 := n1_; have HO_126004 := n2_; have BK125 := n3_; have BK126 := n4_; have BK134 := n5_; have HB := n6_; have BK139 := n7_; have GW139 := n8_; have GE139 := n9_; have NB125_139 := n10_; have NB139_125 := n11_; have NB126_139 := n12_; have NB139_126 := n13_; have NB134_139 := n14_; have NB139_134 := n15_; clear n0_ n1_ n2_ n3_ n4_ n5_ n6_ n7_ n8_ n9_ n10_ n11_ n12_ n13_ n14_ n15_; clear hb hbox hg; have hnb32 := NB139_125.out; have hnc32 := NB125_139.out; have hnb33 := NB139_126.out; have hnc33 := NB126_139.out; have hnb34 := NB139_134.out; have hnc34 := NB134_139.out; have hcz35_0 : w31.cell? ⟨gb139, 0, none⟩ = some (.slice none 0 0) := (blk_cell BK139.out 0).trans rfl; have hcz35_1 : w31.cell? ⟨gb139, 1, none⟩ = some (.slice none 0 0) := (blk_cell BK139.out 1).trans rfl; have hcz35_2 : w31.cell? ⟨gb139, 2, none⟩ = some (.slice none 0 0) := (blk_cell BK139.out 2).trans rfl; have hcz35_3 : w31.cell? ⟨gb139, 3, none⟩ = some (.slice none 0 0) := (blk_cell BK139.out 3).trans rfl; have hcz35_4 : w31.cell? ⟨gb139, 4, none⟩ = some (.slice none 0 0) := (blk_cell BK139.out 4).trans rfl; have hfz35_0 := blk_frozen BK139.out 0; have hfz35_1 := blk_frozen BK139.out 1; have hfz35_2 := blk_frozen BK139.out 2; have hfz35_3 := blk_frozen BK139.out 3; have hfz35_4 := blk_frozen BK139.out 4))
                      have n0_ : Aside0 (Kd.R k34 34 (((((w31.setCell ⟨gb139, 0, none⟩ (.slice A138_0 ((rd_T37 ((rd_T34 l0_5 x4_1).f4) x7_2).f0).length c138_0)).setCell ⟨gb139, 1, none⟩ (.slice A138_1 ((rd_T37 ((rd_T34 l0_5 x4_1).f4) x7_2).f1).length c138_1)).setCell ⟨gb139, 2, none⟩ (.slice A138_2 ((rd_T37 ((rd_T34 l0_5 x4_1).f4) x7_2).f2).length c138_2)).setCell ⟨gb139, 3, none⟩ (.slice A138_3 ((rd_T37 ((rd_T34 l0_5 x4_1).f4) x7_2).f3).length c138_3)).setCell ⟨gb139, 4, none⟩ (.slice A138_4 ((rd_T37 ((rd_T34 l0_5 x4_1).f4) x7_2).f4).length c138_4)) w.heap.size (fun k_ => some k_ ≠ (u6 : Value).ownBlock ∧ k_ ≠ gb134 ∧ k_ ≠ gb139) u3 x3_1) := ⟨by (with_reducible repeat (first | apply Kd.R_alloc | apply Kd.R_drewN | apply Kd.R_drew)); exact Kd.R_mono (Kd.R_far (p := ⟨gb139, 4, none⟩) (Kd.R_far (p := ⟨gb139, 3, none⟩) (Kd.R_far (p := ⟨gb139, 2, none⟩) (Kd.R_far (p := ⟨gb139, 1, none⟩) (Kd.R_far (p := ⟨gb139, 0, none⟩) (Kd.R_mono HO_3.out (fun k_ hk => (⟨hk, hk.2⟩ : _ ∧ k_ ≠ gb139))) (fun _ hk => hk.2) (.slice A138_0 ((rd_T37 ((rd_T34 l0_5 x4_1).f4) x7_2).f0).length c138_0)) (fun _ hk => hk.2) (.slice A138_1 ((rd_T37 ((rd_T34 l0_5 x4_1).f4) x7_2).f1).length c138_1)) (fun _ hk => hk.2) (.slice A138_2 ((rd_T37 ((rd_T34 l0_5 x4_1).f4) x7_2).f2).length c138_2)) (fun _ hk => hk.2) (.slice A138_3 ((rd_T37 ((rd_T34 l0_5 x4_1).f4) x7_2).f3).length c138_3)) (fun _ hk => hk.2) (.slice A138_4 ((rd_T37 ((rd_T34 l0_5 x4_1).f4) x7_2).f4).length c138_4)) (fun _ hk => ⟨hk.1.1.1, ⟨hk.1.1.2, hk.1.2⟩⟩)⟩
                      have n1_ : Aside0 (Kd.S k37 37 (((((w31.setCell ⟨gb139, 0, none⟩ (.slice A138_0 ((rd_T37 ((rd_T34 l0_5 x4_1).f4) x7_2).f0).length c138_0)).setCell ⟨gb139, 1, none⟩ (.slice A138_1 ((rd_T37 ((rd_T34 l0_5 x4_1).f4) x7_2).f1).length c138_1)).setCell ⟨gb139, 2, none⟩ (.slice A138_2 ((rd_T37 ((rd_T34 l0_5 x4_1).f4) x7_2).f2).length c138_2)).setCell ⟨gb139, 3, none⟩ (.slice A138_3 ((rd_T37 ((rd_T34 l0_5 x4_1).f4) x7_2).f3).length c138_3)).setCell ⟨gb139, 4, none⟩ (.slice A138_4 ((rd_T37 ((rd_T34 l0_5 x4_1).f4) x7_2).f4).length c138_4)) w.heap.size (fun k_ => k_ ≠ gb139) u6 x6_2) := ⟨by (with_reducible repeat (first | apply Kd.S_alloc | apply Kd.S_drewN | apply Kd.S_drew)); exact Kd.S_mono (Kd.S_far (p := ⟨gb139, 4, none⟩) (Kd.S_far (p := ⟨gb139, 3, none⟩) (Kd.S_far (p := ⟨gb139, 2, none⟩) (Kd.S_far (p := ⟨gb139, 1, none⟩) (Kd.S_far (p := ⟨gb139, 0, none⟩) (Kd.S_mono HO_6.out (fun k_ hk => (⟨hk, hk.2⟩ : _ ∧ k_ ≠ gb139))) (fun _ hk => hk.2) (.slice A138_0 ((rd_T37 ((rd_T34 l0_5 x4_1).f4) x7_2).f0).length c138_0)) (fun _ hk => hk.2) (.slice A138_1 ((rd_T37 ((rd_T34 l0_5 x4_1).f4) x7_2).f1).length c138_1)) (fun _ hk => hk.2) (.slice A138_2 ((rd_T37 ((rd_T34 l0_5 x4_1).f4) x7_2).f2).length c138_2)) (fun _ hk => hk.2) (.slice A138_3 ((rd_T37 ((rd_T34 l0_5 x4_1).f4) x7_2).f3).length c138_3)) (fun _ hk => hk.2) (.slice A138_4 ((rd_T37 ((rd_T34 l0_5 x4_1).f4) x7_2).f4).length c138_4)) (fun _ hk => hk.1.2)⟩
                      have n2_ : Aside0 (Kd.R k31 31 (((((w31.setCell ⟨gb139, 0, none⟩ (.slice A138_0 ((rd_T37 ((rd_T34 l0_5 x4_1).f4) x7_2).f0).length c138_0)).setCell ⟨gb139, 1, none⟩ (.slice A138_1 ((rd_T37 ((rd_T34 l0_5 x4_1).f4) x7_2).f1).length c138_1)).setCell ⟨gb139, 2, none⟩ (.slice A138_2 ((rd_T37 ((rd_T34 l0_5 x4_1).f4) x7_2).f2).length c138_2)).setCell ⟨gb139, 3, none⟩ (.slice A138_3 ((rd_T37 ((rd_T34 l0_5 x4_1).f4) x7_2).f3).length c138_3)).setCell ⟨gb139, 4, none⟩ (.slice A138_4 ((rd_T37 ((rd_T34 l0_5 x4_1).f4) x7_2).f4).length c138_4)) w.heap.size (fun _ => True) (.slice Ao10 y130.length co10) y130) := ⟨by (with_reducible repeat (first | apply Kd.R_alloc | apply Kd.R_drewN | apply Kd.R_drew)); exact Kd.R_mono (Kd.R_far (p := ⟨gb139, 4, none⟩) (Kd.R_far (p := ⟨gb139, 3, none⟩) (Kd.R_far (p := ⟨gb139, 2, none⟩) (Kd.R_far (p := ⟨gb139, 1, none⟩) (Kd.R_far (p := ⟨gb139, 0, none⟩) (Kd.R_types HO_126004.out BK139.out (by decide)) (fun _ hk => hk.2) (.slice A138_0 ((rd_T37 ((rd_T34 l0_5 x4_1).f4) x7_2).f0).length c138_0)) (fun _ hk => hk.2) (.slice A138_1 ((rd_T37 ((rd_T34 l0_5 x4_1).f4) x7_2).f1).length c138_1)) (fun _ hk => hk.2) (.slice A138_2 ((rd_T37 ((rd_T34 l0_5 x4_1).f4) x7_2).f2).length c138_2)) (fun _ hk => hk.2) (.slice A138_3 ((rd_T37 ((rd_T34 l0_5 x4_1).f4) x7_2).f3).length c138_3)) (fun _ hk => hk.2) (.slice A138_4 ((rd_T37 ((rd_T34 l0_5 x4_1).f4) x7_2).f4).length c138_4)) (fun _ hk => trivial)⟩
                      have n3_ : Aside0 ((((((w31.setCell ⟨gb139, 0, none⟩ (.slice A138_0 ((rd_T37 ((rd_T34 l0_5 x4_1).f4) x7_2).f0).length c138_0)).setCell ⟨gb139, 1, none⟩ (.slice A138_1 ((rd_T37 ((rd_T34 l0_5 x4_1).f4) x7_2).f1).length c138_1)).setCell ⟨gb139, 2, none⟩ (.slice A138_2 ((rd_T37 ((rd_T34 l0_5 x4_1).f4) x7_2).f2).length c138_2)).setCell ⟨gb139, 3, none⟩ (.slice A138_3 ((rd_T37 ((rd_T34 l0_5 x4_1).f4) x7_2).f3).length c138_3)).setCell ⟨gb139, 4, none⟩ (.slice A138_4 ((rd_T37 ((rd_T34 l0_5 x4_1).f4) x7_2).f4).length c138_4)).heap[gb125]? = some (.cells #[.int .i64 a0_0, .int .i64 a0_1, .int .i64 a0_2, .int .i64 a0_3, .slice Ao10 y130.length co10, .slice (some ad133) l0_5.length c0_5] 25 (0, 0))) := ⟨by (with_reducible repeat (first | refine blk_drewN ?_ _ | refine blk_drew ?_ | refine blk_alloc ?_ _)); refine blk_far ?_ NB125_139.out _; (with_reducible repeat (first | refine blk_drewN ?_ _ | refine blk_drew ?_ | refine blk_alloc ?_ _)); refine blk_far ?_ NB125_139.out _; (with_reducible repeat (first | refine blk_drewN ?_ _ | refine blk_drew ?_ | refine blk_alloc ?_ _)); refine blk_far ?_ NB125_139.out _; (with_reducible repeat (first | refine blk_drewN ?_ _ | refine blk_drew ?_ | refine blk_alloc ?_ _)); refine blk_far ?_ NB125_139.out _; (with_reducible repeat (first | refine blk_drewN ?_ _ | refine blk_drew ?_ | refine blk_alloc ?_ _)); refine blk_far ?_ NB125_139.out _; (with_reducible repeat (first | refine blk_drewN ?_ _ | refine blk_drew ?_ | refine blk_alloc ?_ _)); exact BK125.out⟩
                      have n4_ : Aside0 ((((((w31.setCell ⟨gb139, 0, none⟩ (.slice A138_0 ((rd_T37 ((rd_T34 l0_5 x4_1).f4) x7_2).f0).length c138_0)).setCell ⟨gb139, 1, none⟩ (.slice A138_1 ((rd_T37 ((rd_T34 l0_5 x4_1).f4) x7_2).f1).length c138_1)).setCell ⟨gb139, 2, none⟩ (.slice A138_2 ((rd_T37 ((rd_T34 l0_5 x4_1).f4) x7_2).f2).length c138_2)).setCell ⟨gb139, 3, none⟩ (.slice A138_3 ((rd_T37 ((rd_T34 l0_5 x4_1).f4) x7_2).f3).length c138_3)).setCell ⟨gb139, 4, none⟩ (.slice A138_4 ((rd_T37 ((rd_T34 l0_5 x4_1).f4) x7_2).f4).length c138_4)).heap[gb126]? = some (.cells #[.int .i64 0, .int .i64 0, .int .i64 0, .int .i64 0, .slice none 0 0, .slice none 0 0] 25 (0, 0))) := ⟨by (with_reducible repeat (first | refine blk_drewN ?_ _ | refine blk_drew ?_ | refine blk_alloc ?_ _)); refine blk_far ?_ NB126_139.out _; (with_reducible repeat (first | refine blk_drewN ?_ _ | refine blk_drew ?_ | refine blk_alloc ?_ _)); refine blk_far ?_ NB126_139.out _; (with_reducible repeat (first | refine blk_drewN ?_ _ | refine blk_drew ?_ | refine blk_alloc ?_ _)); refine blk_far ?_ NB126_139.out _; (with_reducible repeat (first | refine blk_drewN ?_ _ | refine blk_drew ?_ | refine blk_alloc ?_ _)); refine blk_far ?_ NB126_139.out _; (with_reducible repeat (first | refine blk_drewN ?_ _ | refine blk_drew ?_ | refine blk_alloc ?_ _)); refine blk_far ?_ NB126_139.out _; (with_reducible repeat (first | refine blk_drewN ?_ _ | refine blk_drew ?_ | refine blk_alloc ?_ _)); exact BK126.out⟩
                      have n5_ : Aside0 ((((((w31.setCell ⟨gb139, 0, none⟩ (.slice A138_0 ((rd_T37 ((rd_T34 l0_5 x4_1).f4) x7_2).f0).length c138_0)).setCell ⟨gb139, 1, none⟩ (.slice A138_1 ((rd_T37 ((rd_T34 l0_5 x4_1).f4) x7_2).f1).length c138_1)).setCell ⟨gb139, 2, none⟩ (.slice A138_2 ((rd_T37 ((rd_T34 l0_5 x4_1).f4) x7_2).f2).length c138_2)).setCell ⟨gb139, 3, none⟩ (.slice A138_3 ((rd_T37 ((rd_T34 l0_5 x4_1).f4) x7_2).f3).length c138_3)).setCell ⟨gb139, 4, none⟩ (.slice A138_4 ((rd_T37 ((rd_T34 l0_5 x4_1).f4) x7_2).f4).length c138_4)).heap[gb134]? = some (.cells #[.string ((rd_T34 l0_5 x4_1).f0), .string ((rd_T34 l0_5 x4_1).f1), .int .i64 ((rd_T34 l0_5 x4_1).f2), .int .i64 ((rd_T34 l0_5 x4_1).f3), .slice (some ad138) ((rd_T34 l0_5 x4_1).f4).length c133_4] 34 (0, 0))) := ⟨by (with_reducible repeat (first | refine blk_drewN ?_ _ | refine blk_drew ?_ | refine blk_alloc ?_ _)); refine blk_far ?_ NB134_139.out _; (with_reducible repeat (first | refine blk_drewN ?_ _ | refine blk_drew ?_ | refine blk_alloc ?_ _)); refine blk_far ?_ NB134_139.out _; (with_reducible repeat (first | refine blk_drewN ?_ _ | refine blk_drew ?_ | refine blk_alloc ?_ _)); refine blk_far ?_ NB134_139.out _; (with_reducible repeat (first | refine blk_drewN ?_ _ | refine blk_drew ?_ | refine blk_alloc ?_ _)); refine blk_far ?_ NB134_139.out _; (with_reducible repeat (first | refine blk_drewN ?_ _ | refine blk_drew ?_ | refine blk_alloc ?_ _)); refine blk_far ?_ NB134_139.out _; (with_reducible repeat (first | refine blk_drewN ?_ _ | refine blk_drew ?_ | refine blk_alloc ?_ _)); exact BK134.out⟩
                      have n6_ : Aside0 ((((((w31.setCell ⟨gb139, 0, none⟩ (.slice A138_0 ((rd_T37 ((rd_T34 l0_5 x4_1).f4) x7_2).f0).length c138_0)).setCell ⟨gb139, 1, none⟩ (.slice A138_1 ((rd_T37 ((rd_T34 l0_5 x4_1).f4) x7_2).f1).length c138_1)).setCell ⟨gb139, 2, none⟩ (.slice A138_2 ((rd_T37 ((rd_T34 l0_5 x4_1).f4) x7_2).f2).length c138_2)).setCell ⟨gb139, 3, none⟩ (.slice A138_3 ((rd_T37 ((rd_T34 l0_5 x4_1).f4) x7_2).f3).length c138_3)).setCell ⟨gb139, 4, none⟩ (.slice A138_4 ((rd_T37 ((rd_T34 l0_5 x4_1).f4) x7_2).f4).length c138_4)).heap[gb139]? = some (.cells #[.slice A138_0 ((rd_T37 ((rd_T34 l0_5 x4_1).f4) x7_2).f0).length c138_0, .slice A138_1 ((rd_T37 ((rd_T34 l0_5 x4_1).f4) x7_2).f1).length c138_1, .slice A138_2 ((rd_T37 ((rd_T34 l0_5 x4_1).f4) x7_2).f2).length c138_2, .slice A138_3 ((rd_T37 ((rd_T34 l0_5 x4_1).f4) x7_2).f3).length c138_3, .slice A138_4 ((rd_T37 ((rd_T34 l0_5 x4_1).f4) x7_2).f4).length c138_4] 37 (0, 0))) := ⟨by (with_reducible repeat (first | refine blk_drewN ?_ _ | refine blk_drew ?_ | refine blk_alloc ?_ _)); refine blk_put (cs := #[.slice A138_0 ((rd_T37 ((rd_T34 l0_5 x4_1).f4) x7_2).f0).length c138_0, .slice A138_1 ((rd_T37 ((rd_T34 l0_5 x4_1).f4) x7_2).f1).length c138_1, .slice A138_2 ((rd_T37 ((rd_T34 l0_5 x4_1).f4) x7_2).f2).length c138_2, .slice A138_3 ((rd_T37 ((rd_T34 l0_5 x4_1).f4) x7_2).f3).length c138_3, .slice none 0 0]) ?_ 4 _ rfl; (with_reducible repeat (first | refine blk_drewN ?_ _ | refine blk_drew ?_ | refine blk_alloc ?_ _)); refine blk_put (cs := #[.slice A138_0 ((rd_T37 ((rd_T34 l0_5 x4_1).f4) x7_2).f0).length c138_0, .slice A138_1 ((rd_T37 ((rd_T34 l0_5 x4_1).f4) x7_2).f1).length c138_1, .slice A138_2 ((rd_T37 ((rd_T34 l0_5 x4_1).f4) x7_2).f2).length c138_2, .slice none 0 0, .slice none 0 0]) ?_ 3 _ rfl; (with_reducible repeat (first | refine blk_drewN ?_ _ | refine blk_drew ?_ | refine blk_alloc ?_ _)); refine blk_put (cs := #[.slice A138_0 ((rd_T37 ((rd_T34 l0_5 x4_1).f4) x7_2).f0).length c138_0, .slice A138_1 ((rd_T37 ((rd_T34 l0_5 x4_1).f4) x7_2).f1).length c138_1, .slice none 0 0, .slice none 0 0, .slice none 0 0]) ?_ 2 _ rfl; (with_reducible repeat (first | refine blk_drewN ?_ _ | refine blk_drew ?_ | refine blk_alloc ?_ _)); refine blk_put (cs := #[.slice A138_0 ((rd_T37 ((rd_T34 l0_5 x4_1).f4) x7_2).f0).length c138_0, .slice none 0 0, .slice none 0 0, .slice none 0 0, .slice none 0 0]) ?_ 1 _ rfl; (with_reducible repeat (first | refine blk_drewN ?_ _ | refine blk_drew ?_ | refine blk_alloc ?_ _)); refine blk_put (cs := #[.slice none 0 0, .slice none 0 0, .slice none 0 0, .slice none 0 0, .slice none 0 0]) ?_ 0 _ rfl; (with_reducible repeat (first | refine blk_drewN ?_ _ | refine blk_drew ?_ | refine blk_alloc ?_ _)); exact BK139.out⟩
                      have n7_ : Aside0 (Below w.heap.size w (((((w31.setCell ⟨gb139, 0, none⟩ (.slice A138_0 ((rd_T37 ((rd_T34 l0_5 x4_1).f4) x7_2).f0).length c138_0)).setCell ⟨gb139, 1, none⟩ (.slice A138_1 ((rd_T37 ((rd_T34 l0_5 x4_1).f4) x7_2).f1).length c138_1)).setCell ⟨gb139, 2, none⟩ (.slice A138_2 ((rd_T37 ((rd_T34 l0_5 x4_1).f4) x7_2).f2).length c138_2)).setCell ⟨gb139, 3, none⟩ (.slice A138_3 ((rd_T37 ((rd_T34 l0_5 x4_1).f4) x7_2).f3).length c138_3)).setCell ⟨gb139, 4, none⟩ (.slice A138_4 ((rd_T37 ((rd_T34 l0_5 x4_1).f4) x7_2).f4).length c138_4))) := ⟨by repeat (first | (with_reducible first | exact HB.out | apply below_alloc | apply pw_below_drewN | apply below_drew1 | refine below_set ?_ GE125.out | refine below_set ?_ GE126.out | refine below_set ?_ GE134.out | refine below_set ?_ GE139.out) | exact HB.out)⟩
                      (try clear HO_3)
                      (try clear HO_6)
                      (try clear HO_126004)
                      (try clear BK125)
                      (try clear BK126)
                      (try clear BK134)
                      (try clear BK139)
                      (try clear HB)
                      generalize (((((w31.setCell ⟨gb139, 0, none⟩ (.slice A138_0 ((rd_T37 ((rd_T34 l0_5 x4_1).f4) x7_2).f0).length c138_0)).setCell ⟨gb139, 1, none⟩ (.slice A138_1 ((rd_T37 ((rd_T34 l0_5 x4_1).f4) x7_2).f1).length c138_1)).setCell ⟨gb139, 2, none⟩ (.slice A138_2 ((rd_T37 ((rd_T34 l0_5 x4_1).f4) x7_2).f2).length c138_2)).setCell ⟨gb139, 3, none⟩ (.slice A138_3 ((rd_T37 ((rd_T34 l0_5 x4_1).f4) x7_2).f3).length c138_3)).setCell ⟨gb139, 4, none⟩ (.slice A138_4 ((rd_T37 ((rd_T34 l0_5 x4_1).f4) x7_2).f4).length c138_4)) = w36 at n0_ n1_ n2_ n3_ n4_ n5_ n6_ n7_ ⊢
                      have HO_3 := n0_
                      have HO_6 := n1_
                      have HO_126004 := n2_
                      have BK125 := n3_
                      have BK126 := n4_
                      have BK134 := n5_
                      have BK139 := n6_
                      have HB := n7_
                      clear n0_ n1_ n2_ n3_ n4_ n5_ n6_ n7_
                      have n0_ := Aside0.mk (Kd.R_drew HO_3.out)
                      have n1_ := Aside0.mk (Kd.S_drew HO_6.out)
                      have n2_ := Aside0.mk (Kd.R_drew HO_126004.out)
                      have n3_ := Aside0.mk (blk_drew BK125.out)
                      have n4_ := Aside0.mk (blk_drew BK126.out)
                      have n5_ := Aside0.mk (blk_drew BK134.out)
                      have n6_ := Aside0.mk (blk_drew BK139.out)
                      have n7_ := Aside0.mk (below_drew1 HB.out)
                      clear HO_3
                      clear HO_6
                      clear HO_126004
                      clear BK125
                      clear BK126
                      clear BK134
                      clear BK139
                      clear HB
                      have HO_3 := n0_
                      have HO_6 := n1_
                      have HO_126004 := n2_
                      have BK125 := n3_
                      have BK126 := n4_
                      have BK134 := n5_
                      have BK139 := n6_
                      have HB := n7_
                      clear n0_ n1_ n2_ n3_ n4_ n5_ n6_ n7_
                      refine start_ (n := 20) (S := fun w' => w'.cell? ⟨gb139, 0, none⟩ = some (.slice A138_0 ((rd_T37 ((rd_T34 l0_5 x4_1).f4) x7_2).f0).length c138_0) ∧ w'.cell? ⟨gb139, 1, none⟩ = some (.slice A138_1 ((rd_T37 ((rd_T34 l0_5 x4_1).f4) x7_2).f1).length c138_1) ∧ w'.cell? ⟨gb139, 2, none⟩ = some (.slice A138_2 ((rd_T37 ((rd_T34 l0_5 x4_1).f4) x7_2).f2).length c138_2) ∧ w'.cell? ⟨gb139, 3, none⟩ = some (.slice A138_3 ((rd_T37 ((rd_T34 l0_5 x4_1).f4) x7_2).f3).length c138_3) ∧ w'.cell? ⟨gb139, 4, none⟩ = some (.slice A138_4 ((rd_T37 ((rd_T34 l0_5 x4_1).f4) x7_2).f4).length c138_4)) (ds := []) #[false, false, false, false, false, false, false, false, false, false, false, false, false, false, false, false, false, false, false, false] (by kernel_rfl) rfl rfl ⟨(blk_cell BK139.out 0).trans rfl, (blk_cell BK139.out 1).trans rfl, (blk_cell BK139.out 2).trans rfl, (blk_cell BK139.out 3).trans rfl, (blk_cell BK139.out 4).trans rfl⟩ (fun hHeld => ?_); refine with_tabW usherref10_Copy.tab12 usherref10_Copy.bits12 (fun HT_ HW_ => ?_)
                      generalize w36.drew = w37 at HO_3 HO_6 HO_126004 BK125 BK126 BK134 BK139 HB hHeld ⊢
                      refine pure_ (i := 0) (N := some 38) (v := ?_) (a' := ?_) #[true, false, false, false, false, false, false, false, false, false, false, false, false, false, false, false, false, false, false, false] rfl rfl (any_of HT_.out (by kernel_rfl)) (fun _ _ _ h => h) (Or.inl ⟨by rfl, ?_⟩) ?_ ?_
                      rotate_left
                      · intro w'
                        go_simp
                        with_reducible rfl
                      rotate_left
                      · simp only [Act.put, List.setIfInBounds_toArray, List.set_cons_zero, List.set_cons_succ, i64_w, i32_w]
                        rfl
                      refine pure_ (i := 1) (N := some 39) (v := ?_) (a' := ?_) #[true, true, false, false, false, false, false, false, false, false, false, false, false, false, false, false, false, false, false, false] rfl rfl (any_of HT_.out (by kernel_rfl)) (fun _ _ _ h => h) (Or.inl ⟨by rfl, ?_⟩) ?_ ?_
                      rotate_left
                      · intro w'
                        go_simp
                        with_reducible rfl
                      rotate_left
                      · simp only [Act.put, List.setIfInBounds_toArray, List.set_cons_zero, List.set_cons_succ, i64_w, i32_w]
                        rfl
                      refine pure_ (i := 4) (N := some 42) (v := ?_) (a' := ?_) #[true, true, false, false, true, false, false, false, false, false, false, false, false, false, false, false, false, false, false, false] rfl rfl (any_of HT_.out (by kernel_rfl)) (fun _ _ _ h => h) (Or.inl ⟨by rfl, ?_⟩) ?_ ?_
                      rotate_left
                      · intro w'
                        go_simp
                        with_reducible rfl
                      rotate_left
                      · simp only [Act.put, List.setIfInBounds_toArray, List.set_cons_zero, List.set_cons_succ, i64_w, i32_w]
                        rfl
                      refine pure_ (i := 7) (N := some 45) (v := ?_) (a' := ?_) #[true, true, false, false, true, false, false, true, false, false, false, false, false, false, false, false, false, false, false, false] rfl rfl (any_of HT_.out (by kernel_rfl)) (fun _ _ _ h => h) (Or.inl ⟨by rfl, ?_⟩) ?_ ?_
                      rotate_left
                      · intro w'
                        go_simp
                        with_reducible rfl
                      rotate_left
                      · simp only [Act.put, List.setIfInBounds_toArray, List.set_cons_zero, List.set_cons_succ, i64_w, i32_w]
                        rfl
                      refine pure_ (i := 10) (N := some 48) (v := ?_) (a' := ?_) #[true, true, false, false, true, false, false, true, false, false, true, false, false, false, false, false, false, false, false, false] rfl rfl (any_of HT_.out (by kernel_rfl)) (fun _ _ _ h => h) (Or.inl ⟨by rfl, ?_⟩) ?_ ?_
                      rotate_left
                      · intro w'
                        go_simp
                        with_reducible rfl
                      rotate_left
                      · simp only [Act.put, List.setIfInBounds_toArray, List.set_cons_zero, List.set_cons_succ, i64_w, i32_w]
                        rfl
                      refine pure_ (i := 13) (N := some 51) (v := ?_) (a' := ?_) #[true, true, false, false, true, false, false, true, false, false, true, false, false, true, false, false, false, false, false, false] rfl rfl (any_of HT_.out (by kernel_rfl)) (fun _ _ _ h => h) (Or.inl ⟨by rfl, ?_⟩) ?_ ?_
                      rotate_left
                      · intro w'
                        go_simp
                        with_reducible rfl
                      rotate_left
                      · simp only [Act.put, List.setIfInBounds_toArray, List.set_cons_zero, List.set_cons_succ, i64_w, i32_w]
                        rfl
                      refine take_ (i := 2) (N := some 40) (v := ?_) (a' := ?_) #[true, true, true, false, true, false, false, true, false, false, true, false, false, true, false, false, false, false, false, false] rfl rfl (take_ofW HT_.out HW_.out (by kernel_rfl)) (fun _ _ _ h => h) (Or.inl ⟨by rfl, ?_⟩) hHeld ?_ ?_
                      rotate_left
                      · rintro w' ⟨s0, s1, s2, s3, s4⟩
                        go_simp
                        with_reducible rfl
                      rotate_left
                      · simp only [Act.put, List.setIfInBounds_toArray, List.set_cons_zero, List.set_cons_succ, i64_w, i32_w]
                        rfl
                      refine take_ (i := 5) (N := some 43) (v := ?_) (a' := ?_) #[true, true, true, false, true, true, false, true, false, false, true, false, false, true, false, false, false, false, false, false] rfl rfl (take_ofW HT_.out HW_.out (by kernel_rfl)) (fun _ _ _ h => h) (Or.inl ⟨by rfl, ?_⟩) hHeld ?_ ?_
                      rotate_left
                      · rintro w' ⟨s0, s1, s2, s3, s4⟩
                        go_simp
                        with_reducible rfl
                      rotate_left
                      · simp only [Act.put, List.setIfInBounds_toArray, List.set_cons_zero, List.set_cons_succ, i64_w, i32_w]
                        rfl
                      refine take_ (i := 8) (N := some 46) (v := ?_) (a' := ?_) #[true, true, true, false, true, true, false, true, true, false, true, false, false, true, false, false, false, false, false, false] rfl rfl (take_ofW HT_.out HW_.out (by kernel_rfl)) (fun _ _ _ h => h) (Or.inl ⟨by rfl, ?_⟩) hHeld ?_ ?_
                      rotate_left
                      · rintro w' ⟨s0, s1, s2, s3, s4⟩
                        go_simp
                        with_reducible rfl
                      rotate_left
                      · simp only [Act.put, List.setIfInBounds_toArray, List.set_cons_zero, List.set_cons_succ, i64_w, i32_w]
                        rfl
                      refine take_ (i := 11) (N := some 49) (v := ?_) (a' := ?_) #[true, true, true, false, true, true, false, true, true, false, true, true, false, true, false, false, false, false, false, false] rfl rfl (take_ofW HT_.out HW_.out (by kernel_rfl)) (fun _ _ _ h => h) (Or.inl ⟨by rfl, ?_⟩) hHeld ?_ ?_
                      rotate_left
                      · rintro w' ⟨s0, s1, s2, s3, s4⟩
                        go_simp
                        with_reducible rfl
                      rotate_left
                      · simp only [Act.put, List.setIfInBounds_toArray, List.set_cons_zero, List.set_cons_succ, i64_w, i32_w]
                        rfl
                      refine take_ (i := 14) (N := some 52) (v := ?_) (a' := ?_) #[true, true, true, false, true, true, false, true, true, false, true, true, false, true, true, false, false, false, false, false] rfl rfl (take_ofW HT_.out HW_.out (by kernel_rfl)) (fun _ _ _ h => h) (Or.inl ⟨by rfl, ?_⟩) hHeld ?_ ?_
                      rotate_left
                      · rintro w' ⟨s0, s1, s2, s3, s4⟩
                        go_simp
                        with_reducible rfl
                      rotate_left
                      · simp only [Act.put, List.setIfInBounds_toArray, List.set_cons_zero, List.set_cons_succ, i64_w, i32_w]
                        rfl
                      refine one_ (i := 3) (N := some 41) #[true, true, true, true, true, true, false, true, true, false, true, true, false, true, true, false, false, false, false, false] rfl rfl (one_of HT_.out (by kernel_rfl)) (by decide) (fun K hK => ?_)
                      refine goes_ Try.func26 (by kernel_rfl) rfl #[.slice A138_0 ((rd_T37 ((rd_T34 l0_5 x4_1).f4) x7_2).f0).length c138_0] (by rfl) rfl rfl (by (try simp only [List.map_toArray, List.map_cons, List.map_nil]); first | done | rfl | (simp only [List.length_drop, List.length_take]; rfl)) ?_
                      with_reducible refine (usherref10_words.calls _ _ ((rd_T37 ((rd_T34 l0_5 x4_1).f4) x7_2).f0) t140 _ ?side1 ?side2 A22.out).mono ?_
                      (case side1 => repeat (first | exact (Kd.C_below HR138_0.out HB.out) | (with_reducible refine Kd.C_alloc ?_ _) | (with_reducible refine Kd.C_drewN ?_ _) | (with_reducible refine Kd.C_drew ?_)))
                      (case side2 => exact HC138_0.out)
                      rintro e w38 ⟨v141, rfl, ho0, hb⟩
                      refine ⟨_, rfl, ?_⟩
                      have n0_ := Aside0.mk (Kd.R_elder' (by (with_reducible repeat (first | apply Kd.R_alloc | apply Kd.R_drewN | apply Kd.R_drew)); exact HO_3.out) (Kd.R_base ho0) hb)
                      have n1_ := Aside0.mk (Kd.S_elder' (by (with_reducible repeat (first | apply Kd.S_alloc | apply Kd.S_drewN | apply Kd.S_drew)); exact HO_6.out) (Kd.R_base ho0) hb)
                      have n2_ := Aside0.mk (Kd.R_below (by (with_reducible repeat (first | apply Kd.R_alloc | apply Kd.R_drewN | apply Kd.R_drew)); exact HO_126004.out) hb)
                      have n3_ := Aside0.mk (Kd.R_lower ho0 (below_size (by repeat (first | (with_reducible first | exact HB.out | apply below_alloc | apply pw_below_drewN | apply below_drew1 | refine below_set ?_ GE125.out | refine below_set ?_ GE126.out | refine below_set ?_ GE134.out | refine below_set ?_ GE139.out) | exact HB.out))))
                      have n4_ := Aside0.mk (blk_below (g := gb125) (o := .cells #[.int .i64 a0_0, .int .i64 a0_1, .int .i64 a0_2, .int .i64 a0_3, .slice Ao10 y130.length co10, .slice (some ad133) l0_5.length c0_5] 25 (0, 0)) (by (with_reducible repeat (first | refine blk_drewN ?_ _ | refine blk_drew ?_ | refine blk_alloc ?_ _)); exact BK125.out) hb)
                      have n5_ := Aside0.mk (blk_below (g := gb126) (o := .cells #[.int .i64 0, .int .i64 0, .int .i64 0, .int .i64 0, .slice none 0 0, .slice none 0 0] 25 (0, 0)) (by (with_reducible repeat (first | refine blk_drewN ?_ _ | refine blk_drew ?_ | refine blk_alloc ?_ _)); exact BK126.out) hb)
                      have n6_ := Aside0.mk (blk_below (g := gb134) (o := .cells #[.string ((rd_T34 l0_5 x4_1).f0), .string ((rd_T34 l0_5 x4_1).f1), .int .i64 ((rd_T34 l0_5 x4_1).f2), .int .i64 ((rd_T34 l0_5 x4_1).f3), .slice (some ad138) ((rd_T34 l0_5 x4_1).f4).length c133_4] 34 (0, 0)) (by (with_reducible repeat (first | refine blk_drewN ?_ _ | refine blk_drew ?_ | refine blk_alloc ?_ _)); exact BK134.out) hb)
                      have n7_ := Aside0.mk (blk_below (g := gb139) (o := .cells #[.slice A138_0 ((rd_T37 ((rd_T34 l0_5 x4_1).f4) x7_2).f0).length c138_0, .slice A138_1 ((rd_T37 ((rd_T34 l0_5 x4_1).f4) x7_2).f1).length c138_1, .slice A138_2 ((rd_T37 ((rd_T34 l0_5 x4_1).f4) x7_2).f2).length c138_2, .slice A138_3 ((rd_T37 ((rd_T34 l0_5 x4_1).f4) x7_2).f3).length c138_3, .slice A138_4 ((rd_T37 ((rd_T34 l0_5 x4_1).f4) x7_2).f4).length c138_4] 37 (0, 0)) (by (with_reducible repeat (first | refine blk_drewN ?_ _ | refine blk_drew ?_ | refine blk_alloc ?_ _)); exact BK139.out) hb)
                      have n8_ := Aside0.mk (below_step (by repeat (first | (with_reducible first | exact HB.out | apply below_alloc | apply pw_below_drewN | apply below_drew1 | refine below_set ?_ GE125.out | refine below_set ?_ GE126.out | refine below_set ?_ GE134.out | refine below_set ?_ GE139.out) | exact HB.out)) hb)
                      clear HO_3
                      clear HO_6
                      clear HO_126004
                      clear BK125
                      clear BK126
                      clear BK134
                      clear BK139
                      clear HB
                      have HO_3 := n0_
                      have HO_6 := n1_
                      have HO_126004 := n2_
                      have HO142 := n3_
                      have BK125 := n4_
                      have BK126 := n5_
                      have BK134 := n6_
                      have BK139 := n7_
                      have HB := n8_
                      clear n0_ n1_ n2_ n3_ n4_ n5_ n6_ n7_ n8_
                      (try clear hb)
                      (try clear hb2)
                      (try clear hk)
                      (try clear hi)
                      (try clear ho0)
                      refine hK.out _ _ ⟨(blk_cell BK139.out 0).trans rfl, (blk_cell BK139.out 1).trans rfl, (blk_cell BK139.out 2).trans rfl, (blk_cell BK139.out 3).trans rfl, (blk_cell BK139.out 4).trans rfl⟩ (fun hHeld => ?_)
                      clear hK K
                      refine norm_ (a' := ?_) ?_ ?_
                      rotate_left
                      · show Act.put _ (some 41) _ = _
                        simp only [Act.put, List.setIfInBounds_toArray, List.set_cons_zero, List.set_cons_succ, i64_w, i32_w]
                        rfl
                      refine one_ (i := 6) (N := some 44) #[true, true, true, true, true, true, true, true, true, false, true, true, false, true, true, false, false, false, false, false] rfl rfl (one_of HT_.out (by kernel_rfl)) (by decide) (fun K hK => ?_)
                      refine goes_ Try.func26 (by kernel_rfl) rfl #[.slice A138_1 ((rd_T37 ((rd_T34 l0_5 x4_1).f4) x7_2).f1).length c138_1] (by rfl) rfl rfl (by (try simp only [List.map_toArray, List.map_cons, List.map_nil]); first | done | rfl | (simp only [List.length_drop, List.length_take]; rfl)) ?_
                      with_reducible refine (usherref10_words.calls _ _ ((rd_T37 ((rd_T34 l0_5 x4_1).f4) x7_2).f1) t143 _ ?side1 ?side2 A23.out).mono ?_
                      (case side1 => repeat (first | exact (Kd.C_below HR138_1.out HB.out) | (with_reducible refine Kd.C_alloc ?_ _) | (with_reducible refine Kd.C_drewN ?_ _) | (with_reducible refine Kd.C_drew ?_)))
                      (case side2 => exact HC138_1.out)
                      rintro e w39 ⟨v144, rfl, ho0, hb⟩
                      refine ⟨_, rfl, ?_⟩
                      have n0_ := Aside0.mk (Kd.R_elder' (by (with_reducible repeat (first | apply Kd.R_alloc | apply Kd.R_drewN | apply Kd.R_drew)); exact HO_3.out) (Kd.R_base ho0) hb)
                      have n1_ := Aside0.mk (Kd.S_elder' (by (with_reducible repeat (first | apply Kd.S_alloc | apply Kd.S_drewN | apply Kd.S_drew)); exact HO_6.out) (Kd.R_base ho0) hb)
                      have n2_ := Aside0.mk (Kd.R_below (by (with_reducible repeat (first | apply Kd.R_alloc | apply Kd.R_drewN | apply Kd.R_drew)); exact HO_126004.out) hb)
                      have n3_ := Aside0.mk (Kd.R_elder' (by (with_reducible repeat (first | apply Kd.R_alloc | apply Kd.R_drewN | apply Kd.R_drew)); exact HO142.out) (Kd.R_base ho0) hb)
                      have n4_ := Aside0.mk (Kd.R_lower (Kd.R_new' ho0 (Kd.R_lt (by (with_reducible repeat (first | apply Kd.R_alloc | apply Kd.R_drewN | apply Kd.R_drew)); exact HO142.out))) (below_size (by repeat (first | (with_reducible first | exact HB.out | apply below_alloc | apply pw_below_drewN | apply below_drew1 | refine below_set ?_ GE125.out | refine below_set ?_ GE126.out | refine below_set ?_ GE134.out | refine below_set ?_ GE139.out) | exact HB.out))))
                      have n5_ := Aside0.mk (blk_below (g := gb125) (o := .cells #[.int .i64 a0_0, .int .i64 a0_1, .int .i64 a0_2, .int .i64 a0_3, .slice Ao10 y130.length co10, .slice (some ad133) l0_5.length c0_5] 25 (0, 0)) (by (with_reducible repeat (first | refine blk_drewN ?_ _ | refine blk_drew ?_ | refine blk_alloc ?_ _)); exact BK125.out) hb)
                      have n6_ := Aside0.mk (blk_below (g := gb126) (o := .cells #[.int .i64 0, .int .i64 0, .int .i64 0, .int .i64 0, .slice none 0 0, .slice none 0 0] 25 (0, 0)) (by (with_reducible repeat (first | refine blk_drewN ?_ _ | refine blk_drew ?_ | refine blk_alloc ?_ _)); exact BK126.out) hb)
                      have n7_ := Aside0.mk (blk_below (g := gb134) (o := .cells #[.string ((rd_T34 l0_5 x4_1).f0), .string ((rd_T34 l0_5 x4_1).f1), .int .i64 ((rd_T34 l0_5 x4_1).f2), .int .i64 ((rd_T34 l0_5 x4_1).f3), .slice (some ad138) ((rd_T34 l0_5 x4_1).f4).length c133_4] 34 (0, 0)) (by (with_reducible repeat (first | refine blk_drewN ?_ _ | refine blk_drew ?_ | refine blk_alloc ?_ _)); exact BK134.out) hb)
                      have n8_ := Aside0.mk (blk_below (g := gb139) (o := .cells #[.slice A138_0 ((rd_T37 ((rd_T34 l0_5 x4_1).f4) x7_2).f0).length c138_0, .slice A138_1 ((rd_T37 ((rd_T34 l0_5 x4_1).f4) x7_2).f1).length c138_1, .slice A138_2 ((rd_T37 ((rd_T34 l0_5 x4_1).f4) x7_2).f2).length c138_2, .slice A138_3 ((rd_T37 ((rd_T34 l0_5 x4_1).f4) x7_2).f3).length c138_3, .slice A138_4 ((rd_T37 ((rd_T34 l0_5 x4_1).f4) x7_2).f4).length c138_4] 37 (0, 0)) (by (with_reducible repeat (first | refine blk_drewN ?_ _ | refine blk_drew ?_ | refine blk_alloc ?_ _)); exact BK139.out) hb)
                      have n9_ := Aside0.mk (below_step (by repeat (first | (with_reducible first | exact HB.out | apply below_alloc | apply pw_below_drewN | apply below_drew1 | refine below_set ?_ GE125.out | refine below_set ?_ GE126.out | refine below_set ?_ GE134.out | refine below_set ?_ GE139.out) | exact HB.out)) hb)
                      clear HO_3
                      clear HO_6
                      clear HO_126004
                      clear HO142
                      clear BK125
                      clear BK126
                      clear BK134
                      clear BK139
                      clear HB
                      have HO_3 := n0_
                      have HO_6 := n1_
                      have HO_126004 := n2_
                      have HO142 := n3_
                      have HO145 := n4_
                      have BK125 := n5_
                      have BK126 := n6_
                      have BK134 := n7_
                      have BK139 := n8_
                      have HB := n9_
                      clear n0_ n1_ n2_ n3_ n4_ n5_ n6_ n7_ n8_ n9_
                      (try clear hb)
                      (try clear hb2)
                      (try clear hk)
                      (try clear hi)
                      (try clear ho0)
                      refine hK.out _ _ ⟨(blk_cell BK139.out 0).trans rfl, (blk_cell BK139.out 1).trans rfl, (blk_cell BK139.out 2).trans rfl, (blk_cell BK139.out 3).trans rfl, (blk_cell BK139.out 4).trans rfl⟩ (fun hHeld => ?_)
                      clear hK K
                      refine norm_ (a' := ?_) ?_ ?_
                      rotate_left
                      · show Act.put _ (some 44) _ = _
                        simp only [Act.put, List.setIfInBounds_toArray, List.set_cons_zero, List.set_cons_succ, i64_w, i32_w]
                        rfl
                      refine one_ (i := 9) (N := some 47) #[true, true, true, true, true, true, true, true, true, true, true, true, false, true, true, false, false, false, false, false] rfl rfl (one_of HT_.out (by kernel_rfl)) (by decide) (fun K hK => ?_)
                      refine goes_ Try.func26 (by kernel_rfl) rfl #[.slice A138_2 ((rd_T37 ((rd_T34 l0_5 x4_1).f4) x7_2).f2).length c138_2] (by rfl) rfl rfl (by (try simp only [List.map_toArray, List.map_cons, List.map_nil]); first | done | rfl | (simp only [List.length_drop, List.length_take]; rfl)) ?_
                      with_reducible refine (usherref10_words.calls _ _ ((rd_T37 ((rd_T34 l0_5 x4_1).f4) x7_2).f2) t146 _ ?side1 ?side2 A24.out).mono ?_
                      (case side1 => repeat (first | exact (Kd.C_below HR138_2.out HB.out) | (with_reducible refine Kd.C_alloc ?_ _) | (with_reducible refine Kd.C_drewN ?_ _) | (with_reducible refine Kd.C_drew ?_)))
                      (case side2 => exact HC138_2.out)
                      rintro e w40 ⟨v147, rfl, ho0, hb⟩
                      refine ⟨_, rfl, ?_⟩
                      have n0_ := Aside0.mk (Kd.R_elder' (by (with_reducible repeat (first | apply Kd.R_alloc | apply Kd.R_drewN | apply Kd.R_drew)); exact HO_3.out) (Kd.R_base ho0) hb)
                      have n1_ := Aside0.mk (Kd.S_elder' (by (with_reducible repeat (first | apply Kd.S_alloc | apply Kd.S_drewN | apply Kd.S_drew)); exact HO_6.out) (Kd.R_base ho0) hb)
                      have n2_ := Aside0.mk (Kd.R_below (by (with_reducible repeat (first | apply Kd.R_alloc | apply Kd.R_drewN | apply Kd.R_drew)); exact HO_126004.out) hb)
                      have n3_ := Aside0.mk (Kd.R_elder' (by (with_reducible repeat (first | apply Kd.R_alloc | apply Kd.R_drewN | apply Kd.R_drew)); exact HO142.out) (Kd.R_base ho0) hb)
                      have n4_ := Aside0.mk (Kd.R_elder' (by (with_reducible repeat (first | apply Kd.R_alloc | apply Kd.R_drewN | apply Kd.R_drew)); exact HO145.out) (Kd.R_base ho0) hb)
                      have n5_ := Aside0.mk (Kd.R_lower (Kd.R_new' (Kd.R_new' ho0 (Kd.R_lt (by (with_reducible repeat (first | apply Kd.R_alloc | apply Kd.R_drewN | apply Kd.R_drew)); exact HO142.out))) (Kd.R_lt (by (with_reducible repeat (first | apply Kd.R_alloc | apply Kd.R_drewN | apply Kd.R_drew)); exact HO145.out))) (below_size (by repeat (first | (with_reducible first | exact HB.out | apply below_alloc | apply pw_below_drewN | apply below_drew1 | refine below_set ?_ GE125.out | refine below_set ?_ GE126.out | refine below_set ?_ GE134.out | refine below_set ?_ GE139.out) | exact HB.out))))
                      have n6_ := Aside0.mk (blk_below (g := gb125) (o := .cells #[.int .i64 a0_0, .int .i64 a0_1, .int .i64 a0_2, .int .i64 a0_3, .slice Ao10 y130.length co10, .slice (some ad133) l0_5.length c0_5] 25 (0, 0)) (by (with_reducible repeat (first | refine blk_drewN ?_ _ | refine blk_drew ?_ | refine blk_alloc ?_ _)); exact BK125.out) hb)
                      have n7_ := Aside0.mk (blk_below (g := gb126) (o := .cells #[.int .i64 0, .int .i64 0, .int .i64 0, .int .i64 0, .slice none 0 0, .slice none 0 0] 25 (0, 0)) (by (with_reducible repeat (first | refine blk_drewN ?_ _ | refine blk_drew ?_ | refine blk_alloc ?_ _)); exact BK126.out) hb)
                      have n8_ := Aside0.mk (blk_below (g := gb134) (o := .cells #[.string ((rd_T34 l0_5 x4_1).f0), .string ((rd_T34 l0_5 x4_1).f1), .int .i64 ((rd_T34 l0_5 x4_1).f2), .int .i64 ((rd_T34 l0_5 x4_1).f3), .slice (some ad138) ((rd_T34 l0_5 x4_1).f4).length c133_4] 34 (0, 0)) (by (with_reducible repeat (first | refine blk_drewN ?_ _ | refine blk_drew ?_ | refine blk_alloc ?_ _)); exact BK134.out) hb)
                      have n9_ := Aside0.mk (blk_below (g := gb139) (o := .cells #[.slice A138_0 ((rd_T37 ((rd_T34 l0_5 x4_1).f4) x7_2).f0).length c138_0, .slice A138_1 ((rd_T37 ((rd_T34 l0_5 x4_1).f4) x7_2).f1).length c138_1, .slice A138_2 ((rd_T37 ((rd_T34 l0_5 x4_1).f4) x7_2).f2).length c138_2, .slice A138_3 ((rd_T37 ((rd_T34 l0_5 x4_1).f4) x7_2).f3).length c138_3, .slice A138_4 ((rd_T37 ((rd_T34 l0_5 x4_1).f4) x7_2).f4).length c138_4] 37 (0, 0)) (by (with_reducible repeat (first | refine blk_drewN ?_ _ | refine blk_drew ?_ | refine blk_alloc ?_ _)); exact BK139.out) hb)
                      have n10_ := Aside0.mk (below_step (by repeat (first | (with_reducible first | exact HB.out | apply below_alloc | apply pw_below_drewN | apply below_drew1 | refine below_set ?_ GE125.out | refine below_set ?_ GE126.out | refine below_set ?_ GE134.out | refine below_set ?_ GE139.out) | exact HB.out)) hb)
                      clear HO_3
                      clear HO_6
                      clear HO_126004
                      clear HO142
                      clear HO145
                      clear BK125
                      clear BK126
                      clear BK134
                      clear BK139
                      clear HB
                      have HO_3 := n0_
                      have HO_6 := n1_
                      have HO_126004 := n2_
                      have HO142 := n3_
                      have HO145 := n4_
                      have HO148 := n5_
                      have BK125 := n6_
                      have BK126 := n7_
                      have BK134 := n8_
                      have BK139 := n9_
                      have HB := n10_
                      clear n0_ n1_ n2_ n3_ n4_ n5_ n6_ n7_ n8_ n9_ n10_
                      (try clear hb)
                      (try clear hb2)
                      (try clear hk)
                      (try clear hi)
                      (try clear ho0)
                      refine hK.out _ _ ⟨(blk_cell BK139.out 0).trans rfl, (blk_cell BK139.out 1).trans rfl, (blk_cell BK139.out 2).trans rfl, (blk_cell BK139.out 3).trans rfl, (blk_cell BK139.out 4).trans rfl⟩ (fun hHeld => ?_)
                      clear hK K
                      refine norm_ (a' := ?_) ?_ ?_
                      rotate_left
                      · show Act.put _ (some 47) _ = _
                        simp only [Act.put, List.setIfInBounds_toArray, List.set_cons_zero, List.set_cons_succ, i64_w, i32_w]
                        rfl
                      refine one_ (i := 12) (N := some 50) #[true, true, true, true, true, true, true, true, true, true, true, true, true, true, true, false, false, false, false, false] rfl rfl (one_of HT_.out (by kernel_rfl)) (by decide) (fun K hK => ?_)
                      refine goes_ Try.func26 (by kernel_rfl) rfl #[.slice A138_3 ((rd_T37 ((rd_T34 l0_5 x4_1).f4) x7_2).f3).length c138_3] (by rfl) rfl rfl (by (try simp only [List.map_toArray, List.map_cons, List.map_nil]); first | done | rfl | (simp only [List.length_drop, List.length_take]; rfl)) ?_
                      with_reducible refine (usherref10_words.calls _ _ ((rd_T37 ((rd_T34 l0_5 x4_1).f4) x7_2).f3) t149 _ ?side1 ?side2 A25.out).mono ?_
                      (case side1 => repeat (first | exact (Kd.C_below HR138_3.out HB.out) | (with_reducible refine Kd.C_alloc ?_ _) | (with_reducible refine Kd.C_drewN ?_ _) | (with_reducible refine Kd.C_drew ?_)))
                      (case side2 => exact HC138_3.out)
                      rintro e w41 ⟨v150, rfl, ho0, hb⟩
                      refine ⟨_, rfl, ?_⟩
                      have n0_ := Aside0.mk (Kd.R_elder' (by (with_reducible repeat (first | apply Kd.R_alloc | apply Kd.R_drewN | apply Kd.R_drew)); exact HO_3.out) (Kd.R_base ho0) hb)
                      have n1_ := Aside0.mk (Kd.S_elder' (by (with_reducible repeat (first | apply Kd.S_alloc | apply Kd.S_drewN | apply Kd.S_drew)); exact HO_6.out) (Kd.R_base ho0) hb)
                      have n2_ := Aside0.mk (Kd.R_below (by (with_reducible repeat (first | apply Kd.R_alloc | apply Kd.R_drewN | apply Kd.R_drew)); exact HO_126004.out) hb)
                      have n3_ := Aside0.mk (Kd.R_elder' (by (with_reducible repeat (first | apply Kd.R_alloc | apply Kd.R_drewN | apply Kd.R_drew)); exact HO142.out) (Kd.R_base ho0) hb)
                      have n4_ := Aside0.mk (Kd.R_elder' (by (with_reducible repeat (first | apply Kd.R_alloc | apply Kd.R_drewN | apply Kd.R_drew)); exact HO145.out) (Kd.R_base ho0) hb)
                      have n5_ := Aside0.mk (Kd.R_elder' (by (with_reducible repeat (first | apply Kd.R_alloc | apply Kd.R_drewN | apply Kd.R_drew)); exact HO148.out) (Kd.R_base ho0) hb)
                      have n6_ := Aside0.mk (Kd.R_lower (Kd.R_new' (Kd.R_new' (Kd.R_new' ho0 (Kd.R_lt (by (with_reducible repeat (first | apply Kd.R_alloc | apply Kd.R_drewN | apply Kd.R_drew)); exact HO142.out))) (Kd.R_lt (by (with_reducible repeat (first | apply Kd.R_alloc | apply Kd.R_drewN | apply Kd.R_drew)); exact HO145.out))) (Kd.R_lt (by (with_reducible repeat (first | apply Kd.R_alloc | apply Kd.R_drewN | apply Kd.R_drew)); exact HO148.out))) (below_size (by repeat (first | (with_reducible first | exact HB.out | apply below_alloc | apply pw_below_drewN | apply below_drew1 | refine below_set ?_ GE125.out | refine below_set ?_ GE126.out | refine below_set ?_ GE134.out | refine below_set ?_ GE139.out) | exact HB.out))))
                      have n7_ := Aside0.mk (blk_below (g := gb125) (o := .cells #[.int .i64 a0_0, .int .i64 a0_1, .int .i64 a0_2, .int .i64 a0_3, .slice Ao10 y130.length co10, .slice (some ad133) l0_5.length c0_5] 25 (0, 0)) (by (with_reducible repeat (first | refine blk_drewN ?_ _ | refine blk_drew ?_ | refine blk_alloc ?_ _)); exact BK125.out) hb)
                      have n8_ := Aside0.mk (blk_below (g := gb126) (o := .cells #[.int .i64 0, .int .i64 0, .int .i64 0, .int .i64 0, .slice none 0 0, .slice none 0 0] 25 (0, 0)) (by (with_reducible repeat (first | refine blk_drewN ?_ _ | refine blk_drew ?_ | refine blk_alloc ?_ _)); exact BK126.out) hb)
                      have n9_ := Aside0.mk (blk_below (g := gb134) (o := .cells #[.string ((rd_T34 l0_5 x4_1).f0), .string ((rd_T34 l0_5 x4_1).f1), .int .i64 ((rd_T34 l0_5 x4_1).f2), .int .i64 ((rd_T34 l0_5 x4_1).f3), .slice (some ad138) ((rd_T34 l0_5 x4_1).f4).length c133_4] 34 (0, 0)) (by (with_reducible repeat (first | refine blk_drewN ?_ _ | refine blk_drew ?_ | refine blk_alloc ?_ _)); exact BK134.out) hb)
                      have n10_ := Aside0.mk (blk_below (g := gb139) (o := .cells #[.slice A138_0 ((rd_T37 ((rd_T34 l0_5 x4_1).f4) x7_2).f0).length c138_0, .slice A138_1 ((rd_T37 ((rd_T34 l0_5 x4_1).f4) x7_2).f1).length c138_1, .slice A138_2 ((rd_T37 ((rd_T34 l0_5 x4_1).f4) x7_2).f2).length c138_2, .slice A138_3 ((rd_T37 ((rd_T34 l0_5 x4_1).f4) x7_2).f3).length c138_3, .slice A138_4 ((rd_T37 ((rd_T34 l0_5 x4_1).f4) x7_2).f4).length c138_4] 37 (0, 0)) (by (with_reducible repeat (first | refine blk_drewN ?_ _ | refine blk_drew ?_ | refine blk_alloc ?_ _)); exact BK139.out) hb)
                      have n11_ := Aside0.mk (below_step (by repeat (first | (with_reducible first | exact HB.out | apply below_alloc | apply pw_below_drewN | apply below_drew1 | refine below_set ?_ GE125.out | refine below_set ?_ GE126.out | refine below_set ?_ GE134.out | refine below_set ?_ GE139.out) | exact HB.out)) hb)
                      clear HO_3
                      clear HO_6
                      clear HO_126004
                      clear HO142
                      clear HO145
                      clear HO148
                      clear BK125
                      clear BK126
                      clear BK134
                      clear BK139
                      clear HB
                      have HO_3 := n0_
                      have HO_6 := n1_
                      have HO_126004 := n2_
                      have HO142 := n3_
                      have HO145 := n4_
                      have HO148 := n5_
                      have HO151 := n6_
                      have BK125 := n7_
                      have BK126 := n8_
                      have BK134 := n9_
                      have BK139 := n10_
                      have HB := n11_
                      clear n0_ n1_ n2_ n3_ n4_ n5_ n6_ n7_ n8_ n9_ n10_ n11_
                      (try clear hb)
                      (try clear hb2)
                      (try clear hk)
                      (try clear hi)
                      (try clear ho0)
                      refine hK.out _ _ ⟨(blk_cell BK139.out 0).trans rfl, (blk_cell BK139.out 1).trans rfl, (blk_cell BK139.out 2).trans rfl, (blk_cell BK139.out 3).trans rfl, (blk_cell BK139.out 4).trans rfl⟩ (fun hHeld => ?_)
                      clear hK K
                      refine norm_ (a' := ?_) ?_ ?_
                      rotate_left
                      · show Act.put _ (some 50) _ = _
                        simp only [Act.put, List.setIfInBounds_toArray, List.set_cons_zero, List.set_cons_succ, i64_w, i32_w]
                        rfl
                      refine one_ (i := 15) (N := some 53) #[true, true, true, true, true, true, true, true, true, true, true, true, true, true, true, true, false, false, false, false] rfl rfl (one_of HT_.out (by kernel_rfl)) (by decide) (fun K hK => ?_)
                      refine goes_ Try.func26 (by kernel_rfl) rfl #[.slice A138_4 ((rd_T37 ((rd_T34 l0_5 x4_1).f4) x7_2).f4).length c138_4] (by rfl) rfl rfl (by (try simp only [List.map_toArray, List.map_cons, List.map_nil]); first | done | rfl | (simp only [List.length_drop, List.length_take]; rfl)) ?_
                      with_reducible refine (usherref10_words.calls _ _ ((rd_T37 ((rd_T34 l0_5 x4_1).f4) x7_2).f4) t152 _ ?side1 ?side2 A26.out).mono ?_
                      (case side1 => repeat (first | exact (Kd.C_below HR138_4.out HB.out) | (with_reducible refine Kd.C_alloc ?_ _) | (with_reducible refine Kd.C_drewN ?_ _) | (with_reducible refine Kd.C_drew ?_)))
                      (case side2 => exact HC138_4.out)
                      rintro e w42 ⟨v153, rfl, ho0, hb⟩
                      refine ⟨_, rfl, ?_⟩
                      have n0_ := Aside0.mk (Kd.R_elder' (by (with_reducible repeat (first | apply Kd.R_alloc | apply Kd.R_drewN | apply Kd.R_drew)); exact HO_3.out) (Kd.R_base ho0) hb)
                      have n1_ := Aside0.mk (Kd.S_elder' (by (with_reducible repeat (first | apply Kd.S_alloc | apply Kd.S_drewN | apply Kd.S_drew)); exact HO_6.out) (Kd.R_base ho0) hb)
                      have n2_ := Aside0.mk (Kd.R_below (by (with_reducible repeat (first | apply Kd.R_alloc | apply Kd.R_drewN | apply Kd.R_drew)); exact HO_126004.out) hb)
                      have n3_ := Aside0.mk (Kd.R_elder' (by (with_reducible repeat (first | apply Kd.R_alloc | apply Kd.R_drewN | apply Kd.R_drew)); exact HO142.out) (Kd.R_base ho0) hb)
                      have n4_ := Aside0.mk (Kd.R_elder' (by (with_reducible repeat (first | apply Kd.R_alloc | apply Kd.R_drewN | apply Kd.R_drew)); exact HO145.out) (Kd.R_base ho0) hb)
                      have n5_ := Aside0.mk (Kd.R_elder' (by (with_reducible repeat (first | apply Kd.R_alloc | apply Kd.R_drewN | apply Kd.R_drew)); exact HO148.out) (Kd.R_base ho0) hb)
                      have n6_ := Aside0.mk (Kd.R_elder' (by (with_reducible repeat (first | apply Kd.R_alloc | apply Kd.R_drewN | apply Kd.R_drew)); exact HO151.out) (Kd.R_base ho0) hb)
                      have n7_ := Aside0.mk (Kd.R_lower (Kd.R_new' (Kd.R_new' (Kd.R_new' (Kd.R_new' ho0 (Kd.R_lt (by (with_reducible repeat (first | apply Kd.R_alloc | apply Kd.R_drewN | apply Kd.R_drew)); exact HO142.out))) (Kd.R_lt (by (with_reducible repeat (first | apply Kd.R_alloc | apply Kd.R_drewN | apply Kd.R_drew)); exact HO145.out))) (Kd.R_lt (by (with_reducible repeat (first | apply Kd.R_alloc | apply Kd.R_drewN | apply Kd.R_drew)); exact HO148.out))) (Kd.R_lt (by (with_reducible repeat (first | apply Kd.R_alloc | apply Kd.R_drewN | apply Kd.R_drew)); exact HO151.out))) (below_size (by repeat (first | (with_reducible first | exact HB.out | apply below_alloc | apply pw_below_drewN | apply below_drew1 | refine below_set ?_ GE125.out | refine below_set ?_ GE126.out | refine below_set ?_ GE134.out | refine below_set ?_ GE139.out) | exact HB.out))))
                      have n8_ := Aside0.mk (blk_below (g := gb125) (o := .cells #[.int .i64 a0_0, .int .i64 a0_1, .int .i64 a0_2, .int .i64 a0_3, .slice Ao10 y130.length co10, .slice (some ad133) l0_5.length c0_5] 25 (0, 0)) (by (with_reducible repeat (first | refine blk_drewN ?_ _ | refine blk_drew ?_ | refine blk_alloc ?_ _)); exact BK125.out) hb)
                      have n9_ := Aside0.mk (blk_below (g := gb126) (o := .cells #[.int .i64 0, .int .i64 0, .int .i64 0, .int .i64 0, .slice none 0 0, .slice none 0 0] 25 (0, 0)) (by (with_reducible repeat (first | refine blk_drewN ?_ _ | refine blk_drew ?_ | refine blk_alloc ?_ _)); exact BK126.out) hb)
                      have n10_ := Aside0.mk (blk_below (g := gb134) (o := .cells #[.string ((rd_T34 l0_5 x4_1).f0), .string ((rd_T34 l0_5 x4_1).f1), .int .i64 ((rd_T34 l0_5 x4_1).f2), .int .i64 ((rd_T34 l0_5 x4_1).f3), .slice (some ad138) ((rd_T34 l0_5 x4_1).f4).length c133_4] 34 (0, 0)) (by (with_reducible repeat (first | refine blk_drewN ?_ _ | refine blk_drew ?_ | refine blk_alloc ?_ _)); exact BK134.out) hb)
                      have n11_ := Aside0.mk (blk_below (g := gb139) (o := .cells #[.slice A138_0 ((rd_T37 ((rd_T34 l0_5 x4_1).f4) x7_2).f0).length c138_0, .slice A138_1 ((rd_T37 ((rd_T34 l0_5 x4_1).f4) x7_2).f1).length c138_1, .slice A138_2 ((rd_T37 ((rd_T34 l0_5 x4_1).f4) x7_2).f2).length c138_2, .slice A138_3 ((rd_T37 ((rd_T34 l0_5 x4_1).f4) x7_2).f3).length c138_3, .slice A138_4 ((rd_T37 ((rd_T34 l0_5 x4_1).f4) x7_2).f4).length c138_4] 37 (0, 0)) (by (with_reducible repeat (first | refine blk_drewN ?_ _ | refine blk_drew ?_ | refine blk_alloc ?_ _)); exact BK139.out) hb)
                      have n12_ := Aside0.mk (below_step (by repeat (first | (with_reducible first | exact HB.out | apply below_alloc | apply pw_below_drewN | apply below_drew1 | refine below_set ?_ GE125.out | refine below_set ?_ GE126.out | refine below_set ?_ GE134.out | refine below_set ?_ GE139.out) | exact HB.out)) hb)
                      clear HO_3
                      clear HO_6
                      clear HO_126004
                      clear HO142
                      clear HO145
                      clear HO148
                      clear HO151
                      clear BK125
                      clear BK126
                      clear BK134
                      clear BK139
                      clear HB
                      have HO_3 := n0_
                      have HO_6 := n1_
                      have HO_126004 := n2_
                      have HO142 := n3_
                      have HO145 := n4_
                      have HO148 := n5_
                      have HO151 := n6_
                      have HO154 := n7_
                      have BK125 := n8_
                      have BK126 := n9_
                      have BK134 := n10_
                      have BK139 := n11_
                      have HB := n12_
                      clear n0_ n1_ n2_ n3_ n4_ n5_ n6_ n7_ n8_ n9_ n10_ n11_ n12_
                      (try clear hb)
                      (try clear hb2)
                      (try clear hk)
                      (try clear hi)
                      (try clear ho0)
                      obtain ⟨Ao43, co43, eo43⟩ := Kd.R_slice HO154.out
                      (first | subst eo43 | (injection eo43 with f1_ f2_ f3_; have f4_ := f1_.symm; have f5_ := f3_.symm; clear f1_ f2_ f3_; subst f4_; subst f5_))
                      obtain ⟨Ao44, co44, eo44⟩ := Kd.R_slice HO151.out
                      (first | subst eo44 | (injection eo44 with f1_ f2_ f3_; have f4_ := f1_.symm; have f5_ := f3_.symm; clear f1_ f2_ f3_; subst f4_; subst f5_))
                      obtain ⟨Ao45, co45, eo45⟩ := Kd.R_slice HO148.out
                      (first | subst eo45 | (injection eo45 with f1_ f2_ f3_; have f4_ := f1_.symm; have f5_ := f3_.symm; clear f1_ f2_ f3_; subst f4_; subst f5_))
                      obtain ⟨Ao46, co46, eo46⟩ := Kd.R_slice HO145.out
                      (first | subst eo46 | (injection eo46 with f1_ f2_ f3_; have f4_ := f1_.symm; have f5_ := f3_.symm; clear f1_ f2_ f3_; subst f4_; subst f5_))
                      obtain ⟨Ao47, co47, eo47⟩ := Kd.R_slice HO142.out
                      (first | subst eo47 | (injection eo47 with f1_ f2_ f3_; have f4_ := f1_.symm; have f5_ := f3_.symm; clear f1_ f2_ f3_; subst f4_; subst f5_))
                      refine hK.out _ _ ⟨(blk_cell BK139.out 0).trans rfl, (blk_cell BK139.out 1).trans rfl, (blk_cell BK139.out 2).trans rfl, (blk_cell BK139.out 3).trans rfl, (blk_cell BK139.out 4).trans rfl⟩ (fun hHeld => ?_)
                      clear hK K
                      refine norm_ (a' := ?_) ?_ ?_
                      rotate_left
                      · show Act.put _ (some 53) _ = _
                        simp only [Act.put, List.setIfInBounds_toArray, List.set_cons_zero, List.set_cons_succ, i64_w, i32_w]
                        rfl
                      refine pure_ (i := 16) (N := some 54) (v := ?_) (a' := ?_) #[true, true, true, true, true, true, true, true, true, true, true, true, true, true, true, true, true, false, false, false] rfl rfl (any_of HT_.out (by kernel_rfl)) (fun _ _ _ h => h) (Or.inl ⟨by rfl, ?_⟩) ?_ ?_
                      rotate_left
                      · intro w'
                        go_simp
                        with_reducible rfl
                      rotate_left
                      · simp only [Act.put, List.setIfInBounds_toArray, List.set_cons_zero, List.set_cons_succ, i64_w, i32_w]
                        rfl
                      refine one_ (i := 17) (N := some 55) #[true, true, true, true, true, true, true, true, true, true, true, true, true, true, true, true, true, true, false, false] rfl rfl (one_of HT_.out (by kernel_rfl)) (by decide) (fun K hK => ?_)
                      refine value_ (w1 := ?_) (v := ?_) (by rfl) rfl ?_ ?_
                      rotate_left 2
                      · go_simp
                        constructor
                        · rfl
                        · rfl
                      refine hK.out _ _ ⟨(blk_cell (blk_alloc BK139.out _) 0).trans rfl, (blk_cell (blk_alloc BK139.out _) 1).trans rfl, (blk_cell (blk_alloc BK139.out _) 2).trans rfl, (blk_cell (blk_alloc BK139.out _) 3).trans rfl, (blk_cell (blk_alloc BK139.out _) 4).trans rfl⟩ (fun hHeld => ?_)
                      clear hK K
                      refine norm_ (a' := ?_) ?_ ?_
                      rotate_left
                      · show Act.put _ (some 55) _ = _
                        simp only [Act.put, List.setIfInBounds_toArray, List.set_cons_zero, List.set_cons_succ, i64_w, i32_w]
                        rfl
                      refine one_ (i := 18) (N := some 56) #[true, true, true, true, true, true, true, true, true, true, true, true, true, true, true, true, true, true, true, false] rfl rfl (one_of HT_.out (by kernel_rfl)) (by decide) (fun K hK => ?_)
                      refine Kd.S_append_step k37 (w0 := w) w.heap.size (by rfl) (.tmp 38) (.tmp 55) 32 37 (.agg #[(.slice none 0 0), (.slice none 0 0), (.slice none 0 0), (.slice none 0 0), (.slice none 0 0)]) 120 rfl Try.underlying32 info37 rfl (by decide) (by omega) u6 x6_2 (⟨t140, t143, t146, t149, t152⟩ : S37) [.slice Ao47 t140.length co47, .slice Ao46 t143.length co46, .slice Ao45 t146.length co45, .slice Ao44 t149.length co44, .slice Ao43 t152.length co43] (fun k_ => k_ ≠ gb139) (fun k_ => some k_ = (.slice Ao47 t140.length co47 : Value).ownBlock ∨ some k_ = (.slice Ao46 t143.length co46 : Value).ownBlock ∨ some k_ = (.slice Ao45 t146.length co45 : Value).ownBlock ∨ some k_ = (.slice Ao44 t149.length co44 : Value).ownBlock ∨ some k_ = (.slice Ao43 t152.length co43 : Value).ownBlock) rfl rfl ?aP (fun k_ hk_ => hk_.elim (fun h_ => ((Kd.R_mono (ok' := fun k_ => ((fun k_ => k_ ≠ gb139)) k_ ∧ some k_ ≠ (u6 : Value).ownBlock) (Kd.R_types (Kd.R_apart' (HO142.out) (Kd.S_typed HO_6.out) (by decide)) BK139.out (by decide)) (fun k_ hk => ⟨hk.2, hk.1.2⟩))).1 k_ h_.symm) (fun h_ => h_.elim (fun h_ => ((Kd.R_mono (ok' := fun k_ => ((fun k_ => k_ ≠ gb139)) k_ ∧ some k_ ≠ (u6 : Value).ownBlock) (Kd.R_types (Kd.R_apart' (HO145.out) (Kd.S_typed HO_6.out) (by decide)) BK139.out (by decide)) (fun k_ hk => ⟨hk.2, hk.1.2⟩))).1 k_ h_.symm) (fun h_ => h_.elim (fun h_ => ((Kd.R_mono (ok' := fun k_ => ((fun k_ => k_ ≠ gb139)) k_ ∧ some k_ ≠ (u6 : Value).ownBlock) (Kd.R_types (Kd.R_apart' (HO148.out) (Kd.S_typed HO_6.out) (by decide)) BK139.out (by decide)) (fun k_ hk => ⟨hk.2, hk.1.2⟩))).1 k_ h_.symm) (fun h_ => h_.elim (fun h_ => ((Kd.R_mono (ok' := fun k_ => ((fun k_ => k_ ≠ gb139)) k_ ∧ some k_ ≠ (u6 : Value).ownBlock) (Kd.R_types (Kd.R_apart' (HO151.out) (Kd.S_typed HO_6.out) (by decide)) BK139.out (by decide)) (fun k_ hk => ⟨hk.2, hk.1.2⟩))).1 k_ h_.symm) (fun h_ => ((Kd.R_mono (ok' := fun k_ => ((fun k_ => k_ ≠ gb139)) k_ ∧ some k_ ≠ (u6 : Value).ownBlock) (Kd.R_types (Kd.R_apart' (HO154.out) (Kd.S_typed HO_6.out) (by decide)) BK139.out (by decide)) (fun k_ hk => ⟨hk.2, hk.1.2⟩))).1 k_ h_.symm))))) ?aF ?aO ?aB ?aS ?aL ?_
                      (case aP => exact k37_mkM _ _ _ (⟨t140, t143, t146, t149, t152⟩ : S37) (Kd.R_mono (Kd.R_tight rfl (Kd.R_mono (ok' := fun k_ => ((fun k_ => k_ ≠ gb139)) k_ ∧ some k_ ≠ (u6 : Value).ownBlock) (Kd.R_types (Kd.R_apart' (HO142.out) (Kd.S_typed HO_6.out) (by decide)) BK139.out (by decide)) (fun k_ hk => ⟨hk.2, hk.1.2⟩))) (fun _ h_ => Or.inl h_)) (Kd.R_mono (Kd.R_tight rfl (Kd.R_mono (ok' := fun k_ => ((fun k_ => k_ ≠ gb139)) k_ ∧ some k_ ≠ (u6 : Value).ownBlock) (Kd.R_types (Kd.R_apart' (HO145.out) (Kd.S_typed HO_6.out) (by decide)) BK139.out (by decide)) (fun k_ hk => ⟨hk.2, hk.1.2⟩))) (fun _ h_ => Or.inr (Or.inl h_))) (Kd.R_mono (Kd.R_tight rfl (Kd.R_mono (ok' := fun k_ => ((fun k_ => k_ ≠ gb139)) k_ ∧ some k_ ≠ (u6 : Value).ownBlock) (Kd.R_types (Kd.R_apart' (HO148.out) (Kd.S_typed HO_6.out) (by decide)) BK139.out (by decide)) (fun k_ hk => ⟨hk.2, hk.1.2⟩))) (fun _ h_ => Or.inr (Or.inr (Or.inl h_)))) (Kd.R_mono (Kd.R_tight rfl (Kd.R_mono (ok' := fun k_ => ((fun k_ => k_ ≠ gb139)) k_ ∧ some k_ ≠ (u6 : Value).ownBlock) (Kd.R_types (Kd.R_apart' (HO151.out) (Kd.S_typed HO_6.out) (by decide)) BK139.out (by decide)) (fun k_ hk => ⟨hk.2, hk.1.2⟩))) (fun _ h_ => Or.inr (Or.inr (Or.inr (Or.inl h_))))) (Kd.R_mono (Kd.R_tight rfl (Kd.R_mono (ok' := fun k_ => ((fun k_ => k_ ≠ gb139)) k_ ∧ some k_ ≠ (u6 : Value).ownBlock) (Kd.R_types (Kd.R_apart' (HO154.out) (Kd.S_typed HO_6.out) (by decide)) BK139.out (by decide)) (fun k_ hk => ⟨hk.2, hk.1.2⟩))) (fun _ h_ => Or.inr (Or.inr (Or.inr (Or.inr (h_)))))))
                      (case aB => exact (by repeat (first | (with_reducible first | exact HB.out | apply below_alloc | apply pw_below_drewN | apply below_drew1 | refine below_set ?_ GE125.out | refine below_set ?_ GE126.out | refine below_set ?_ GE134.out | refine below_set ?_ GE139.out) | exact HB.out)))
                      (case aF => exact (fun k_ hk => Kd.freshB (g := gb139) (o := .cells #[.slice A138_0 ((rd_T37 ((rd_T34 l0_5 x4_1).f4) x7_2).f0).length c138_0, .slice A138_1 ((rd_T37 ((rd_T34 l0_5 x4_1).f4) x7_2).f1).length c138_1, .slice A138_2 ((rd_T37 ((rd_T34 l0_5 x4_1).f4) x7_2).f2).length c138_2, .slice A138_3 ((rd_T37 ((rd_T34 l0_5 x4_1).f4) x7_2).f3).length c138_3, .slice A138_4 ((rd_T37 ((rd_T34 l0_5 x4_1).f4) x7_2).f4).length c138_4] 37 (0, 0)) (by (with_reducible repeat (first | refine blk_drewN ?_ _ | refine blk_drew ?_ | refine blk_alloc ?_ _)); exact BK139.out) k_ hk))
                      (case aO => exact (by (with_reducible repeat (first | apply Kd.S_alloc | apply Kd.S_drewN | apply Kd.S_drew)); exact Kd.S_mono HO_6.out (fun k_ hk => ⟨hk.1.1.1.1.1, fun e_ => e_.elim (fun h_ => hk.1.1.1.1.2 h_) (fun h_ => h_.elim (fun h_ => hk.1.1.1.2 h_) (fun h_ => h_.elim (fun h_ => hk.1.1.2 h_) (fun h_ => h_.elim (fun h_ => hk.1.2 h_) (fun h_ => hk.2 h_))))⟩)))
                      (case aS => exact (below_size (by repeat (first | (with_reducible first | exact HB.out | apply below_alloc | apply pw_below_drewN | apply below_drew1 | refine below_set ?_ GE125.out | refine below_set ?_ GE126.out | refine below_set ?_ GE134.out | refine below_set ?_ GE139.out) | exact HB.out))))
                      (case aL => have := LMc27.out; omega)
                      intro v156 w48 ho hb hg hat
                      rw [← Ny155.out] at ho
                      have n0_ := Aside0.mk (Kd.R_after (ok := (fun k_ => some k_ ≠ (.slice Ao47 t140.length co47 : Value).ownBlock ∧ some k_ ≠ (.slice Ao46 t143.length co46 : Value).ownBlock ∧ some k_ ≠ (.slice Ao45 t146.length co45 : Value).ownBlock ∧ some k_ ≠ (.slice Ao44 t149.length co44 : Value).ownBlock ∧ some k_ ≠ (.slice Ao43 t152.length co43 : Value).ownBlock ∧ k_ ≠ gb134 ∧ k_ ≠ gb139)) (by (with_reducible repeat (first | apply Kd.R_alloc | apply Kd.R_drewN | apply Kd.R_drew)); exact Kd.R_mono HO_3.out (fun _ hk => ⟨⟨hk.1.1.1.1.2, ⟨hk.1.1.1.2, ⟨hk.1.1.2, ⟨hk.1.2, ⟨hk.2, ⟨hk.1.1.1.1.1.2.1, hk.1.1.1.1.1.2.2⟩⟩⟩⟩⟩⟩, hk.1.1.1.1.1.1⟩)) hg hat)
                      have n1_ := Aside0.mk (Kd.R_over' (by (with_reducible repeat (first | apply Kd.R_alloc | apply Kd.R_drewN | apply Kd.R_drew)); exact HO_126004.out) (Kd.S_typed (by (with_reducible repeat (first | apply Kd.S_alloc | apply Kd.S_drewN | apply Kd.S_drew)); exact HO_6.out)) (by decide) hg)
                      have n2_ := Aside0.mk (blk_grown (g := gb125) (o := .cells #[.int .i64 a0_0, .int .i64 a0_1, .int .i64 a0_2, .int .i64 a0_3, .slice Ao10 y130.length co10, .slice (some ad133) l0_5.length c0_5] 25 (0, 0)) (by (with_reducible repeat (first | refine blk_drewN ?_ _ | refine blk_drew ?_ | refine blk_alloc ?_ _)); exact BK125.out) hg (Kd.S_ne HO_6.out BK125.out (by decide)))
                      have n3_ := Aside0.mk (blk_grown (g := gb126) (o := .cells #[.int .i64 0, .int .i64 0, .int .i64 0, .int .i64 0, .slice none 0 0, .slice none 0 0] 25 (0, 0)) (by (with_reducible repeat (first | refine blk_drewN ?_ _ | refine blk_drew ?_ | refine blk_alloc ?_ _)); exact BK126.out) hg (Kd.S_ne HO_6.out BK126.out (by decide)))
                      have n4_ := Aside0.mk (blk_grown (g := gb134) (o := .cells #[.string ((rd_T34 l0_5 x4_1).f0), .string ((rd_T34 l0_5 x4_1).f1), .int .i64 ((rd_T34 l0_5 x4_1).f2), .int .i64 ((rd_T34 l0_5 x4_1).f3), .slice (some ad138) ((rd_T34 l0_5 x4_1).f4).length c133_4] 34 (0, 0)) (by (with_reducible repeat (first | refine blk_drewN ?_ _ | refine blk_drew ?_ | refine blk_alloc ?_ _)); exact BK134.out) hg (Kd.S_ne HO_6.out BK134.out (by decide)))
                      have n5_ := Aside0.mk (blk_grown (g := gb139) (o := .cells #[.slice A138_0 ((rd_T37 ((rd_T34 l0_5 x4_1).f4) x7_2).f0).length c138_0, .slice A138_1 ((rd_T37 ((rd_T34 l0_5 x4_1).f4) x7_2).f1).length c138_1, .slice A138_2 ((rd_T37 ((rd_T34 l0_5 x4_1).f4) x7_2).f2).length c138_2, .slice A138_3 ((rd_T37 ((rd_T34 l0_5 x4_1).f4) x7_2).f3).length c138_3, .slice A138_4 ((rd_T37 ((rd_T34 l0_5 x4_1).f4) x7_2).f4).length c138_4] 37 (0, 0)) (by (with_reducible repeat (first | refine blk_drewN ?_ _ | refine blk_drew ?_ | refine blk_alloc ?_ _)); exact BK139.out) hg (Kd.S_away HO_6.out (fun _ hk => hk.1.1.1.1.1)))
                      have n6_ := Aside0.mk (hb)
                      have n7_ := Aside0.mk (ho)
                      clear HO_3
                      clear HO_126004
                      clear BK125
                      clear BK126
                      clear BK134
                      clear BK139
                      clear HB
                      clear HO_6
                      clear HO142
                      clear HO145
                      clear HO148
                      clear HO151
                      clear HO154
                      have HO_3 := n0_
                      have HO_126004 := n1_
                      have BK125 := n2_
                      have BK126 := n3_
                      have BK134 := n4_
                      have BK139 := n5_
                      have HB := n6_
                      have HO157 := n7_
                      clear n0_ n1_ n2_ n3_ n4_ n5_ n6_ n7_
                      clear ho hb hg hat
                      refine hK.out _ _ ⟨(blk_cell BK139.out 0).trans rfl, (blk_cell BK139.out 1).trans rfl, (blk_cell BK139.out 2).trans rfl, (blk_cell BK139.out 3).trans rfl, (blk_cell BK139.out 4).trans rfl⟩ (fun hHeld => ?_)
                      clear hK K
                      refine norm_ (a' := ?_) ?_ ?_
                      rotate_left
                      · show Act.put _ (some 56) _ = _
                        simp only [Act.put, List.setIfInBounds_toArray, List.set_cons_zero, List.set_cons_succ, i64_w, i32_w]
                        rfl
                      refine pure_ (i := 19) (N := some 6) (v := ?_) (a' := ?_) #[true, true, true, true, true, true, true, true, true, true, true, true, true, true, true, true, true, true, true, true] rfl rfl (any_of HT_.out (by kernel_rfl)) (fun _ _ _ h => h) (Or.inl ⟨by rfl, ?_⟩) ?_ ?_
                      rotate_left
                      · intro w'
                        go_simp
                        with_reducible rfl
                      rotate_left
                      · simp only [Act.put, List.setIfInBounds_toArray, List.set_cons_zero, List.set_cons_succ, i64_w, i32_w]
                        rfl
                      refine done_ (done_of HT_.out (by kernel_rfl)) ?_
                      try go_wp2
                      go_roundg k2
                      case measure => have := HK1.out; have := HK2.out; omega
                      case rel => exact ⟨(y155), (wrap64 (x7_2 + 1)), (by first | rfl | (simp; done) | (simp [*]; done)), H', ⟨by have := HK1.out; have := HK2.out; omega⟩, ⟨by (with_reducible repeat (first | apply Kd.R_alloc | apply Kd.R_drewN | apply Kd.R_drew)); exact Kd.R_mono HO_3.out (fun _ hk => ⟨hk.2, hk.1.2.2.2.2.2.1⟩)⟩, ⟨by (with_reducible repeat (first | apply Kd.S_alloc | apply Kd.S_drewN | apply Kd.S_drew)); exact Kd.S_mono HO157.out (fun _ hk => trivial)⟩, ⟨by (with_reducible repeat (first | apply Kd.R_alloc | apply Kd.R_drewN | apply Kd.R_drew)); exact HO_126004.out⟩, ⟨by (with_reducible repeat (first | refine blk_drewN ?_ _ | refine blk_drew ?_ | refine blk_alloc ?_ _)); exact BK125.out⟩, ⟨by (with_reducible repeat (first | refine blk_drewN ?_ _ | refine blk_drew ?_ | refine blk_alloc ?_ _)); exact BK126.out⟩, ⟨by (with_reducible repeat (first | refine blk_drewN ?_ _ | refine blk_drew ?_ | refine blk_alloc ?_ _)); exact BK134.out⟩, ⟨by repeat (first | (with_reducible first | exact HB.out | apply below_alloc | apply pw_below_drewN | apply below_drew1 | refine below_set ?_ GE125.out | refine below_set ?_ GE126.out | refine below_set ?_ GE134.out | refine below_set ?_ GE139.out) | exact HB.out)⟩⟩
                    · rw [if_neg c27] at H
                      exact absurd H (by simp)
                  · rw [if_neg c21] at H
                    exact absurd H (by simp)
                · rw [if_neg c20] at H
                  have c20b0 : decide (x7_2 < (((rd_T34 l0_5 x4_1).f4).length : Int)) = false := decide_eq_false c20
                  clear c20
                  by_cases c49 : x3_1.length < 1954687338268
                  · rw [if_pos c49] at H
                    have LMc49 := Aside0.mk c49
                    clear c49
                    obtain ⟨y135, hy135⟩ : ∃ y_ : List (S34), y_ = (x3_1 ++ [(⟨((rd_T34 l0_5 x4_1).f0), ((rd_T34 l0_5 x4_1).f1), ((rd_T34 l0_5 x4_1).f2), ((rd_T34 l0_5 x4_1).f3), x6_2⟩ : S34)]) := ⟨_, rfl⟩
                    replace H : (usherref10_Copy.l0 k2 y135 (wrap64 (x4_1 + 1)) a0_0 a0_1 a0_2 a0_3 y130 l0_5) = some (r1, r2, r3, r4, r5, r6) := by first | (rw [hy135]; with_reducible exact H) | (have H2_ := (Option.bind_some _ _).symm.trans H; rw [hy135]; with_reducible exact H2_) | (have H2_ := (Option.bind_some _ _).symm.trans H; with_reducible exact H2_) | with_reducible exact H | (rw [hy135]; exact H) | exact H
                    have Ny135 := Aside0.mk hy135
                    clear hy135
                    have H' := Aside0.mk H
                    clear H
                    have hnb50 := NB134_125.out
                    have hnc50 := NB125_134.out
                    have hnb51 := NB134_126.out
                    have hnc51 := NB126_134.out
                    have hcz52_0 : wr.cell? ⟨gb134, 0, none⟩ = some (.string ((rd_T34 l0_5 x4_1).f0)) := (blk_cell BK134.out 0).trans rfl
                    have hcz52_1 : wr.cell? ⟨gb134, 1, none⟩ = some (.string ((rd_T34 l0_5 x4_1).f1)) := (blk_cell BK134.out 1).trans rfl
                    have hcz52_2 : wr.cell? ⟨gb134, 2, none⟩ = some (.int .i64 ((rd_T34 l0_5 x4_1).f2)) := (blk_cell BK134.out 2).trans rfl
                    have hcz52_3 : wr.cell? ⟨gb134, 3, none⟩ = some (.int .i64 ((rd_T34 l0_5 x4_1).f3)) := (blk_cell BK134.out 3).trans rfl
                    have hcz52_4 : wr.cell? ⟨gb134, 4, none⟩ = some (.slice A133_4 ((rd_T34 l0_5 x4_1).f4).length c133_4) := (blk_cell BK134.out 4).trans rfl
                    have hfz52_0 := blk_frozen BK134.out 0
                    have hfz52_1 := blk_frozen BK134.out 1
                    have hfz52_2 := blk_frozen BK134.out 2
                    have hfz52_3 := blk_frozen BK134.out 3
                    have hfz52_4 := blk_frozen BK134.out 4
                    obtain ⟨Ao53, co53, eo53⟩ := Kd.S_slice HO_6.out
                    subst eo53
                    go_wp2_with (first | ((with_reducible refine gate_store (t := 32) (p := 58) rfl ?_); refine store_event (t := 32) (p := 58) (v := ?vo_w54) (w1 := (wr.setCell ⟨gb134, 4, none⟩ (.slice Ao53 x6_2.length co53))) ?hg ?ho ?hn ?hr ?_; (case ho => rfl); (case hg => rfl); (case hn => rfl); (case hr => first | (go_simp; done) | (go_simp; rfl)); intro w54 hw; have n0_ : Aside0 (Kd.R k34 34 w54 w.heap.size (fun k_ => some k_ ≠ (.slice Ao53 x6_2.length co53 : Value).ownBlock ∧ k_ ≠ gb134) u3 x3_1) := ⟨(by rw [hw]; exact (by (with_reducible repeat (first | apply Kd.R_alloc | apply Kd.R_drewN | apply Kd.R_drew)); exact Kd.R_mono (Kd.R_far (p := ⟨gb134, 4, none⟩) (Kd.R_mono HO_3.out (fun k_ hk => (⟨hk, hk.2⟩ : _ ∧ k_ ≠ gb134))) (fun _ hk => hk.2) (.slice Ao53 x6_2.length co53)) (fun _ hk => ⟨hk.1.1, hk.1.2⟩)))⟩; have n1_ : Aside0 (Kd.S k37 37 w54 w.heap.size (fun _ => True) (.slice Ao53 x6_2.length co53) x6_2) := ⟨(by rw [hw]; exact (by (with_reducible repeat (first | apply Kd.S_alloc | apply Kd.S_drewN | apply Kd.S_drew)); exact Kd.S_mono (Kd.S_far (p := ⟨gb134, 4, none⟩) (Kd.S_types HO_6.out BK134.out (by decide)) (fun _ hk => hk.2) (.slice Ao53 x6_2.length co53)) (fun _ hk => trivial)))⟩; have n2_ : Aside0 (Kd.R k31 31 w54 w.heap.size (fun _ => True) (.slice Ao10 y130.length co10) y130) := ⟨(by rw [hw]; exact (by (with_reducible repeat (first | apply Kd.R_alloc | apply Kd.R_drewN | apply Kd.R_drew)); exact Kd.R_mono (Kd.R_far (p := ⟨gb134, 4, none⟩) (Kd.R_types HO_126004.out BK134.out (by decide)) (fun _ hk => hk.2) (.slice Ao53 x6_2.length co53)) (fun _ hk => trivial)))⟩; have n3_ : Aside0 (w54.heap[gb125]? = some (.cells #[.int .i64 a0_0, .int .i64 a0_1, .int .i64 a0_2, .int .i64 a0_3, .slice Ao10 y130.length co10, .slice (some ad133) l0_5.length c0_5] 25 (0, 0))) := ⟨(by rw [hw]; exact (by (with_reducible repeat (first | refine blk_drewN ?_ _ | refine blk_drew ?_ | refine blk_alloc ?_ _)); refine blk_far ?_ NB125_134.out _; (with_reducible repeat (first | refine blk_drewN ?_ _ | refine blk_drew ?_ | refine blk_alloc ?_ _)); exact BK125.out))⟩; have n4_ : Aside0 (w54.heap[gb126]? = some (.cells #[.int .i64 0, .int .i64 0, .int .i64 0, .int .i64 0, .slice none 0 0, .slice none 0 0] 25 (0, 0))) := ⟨(by rw [hw]; exact (by (with_reducible repeat (first | refine blk_drewN ?_ _ | refine blk_drew ?_ | refine blk_alloc ?_ _)); refine blk_far ?_ NB126_134.out _; (with_reducible repeat (first | refine blk_drewN ?_ _ | refine blk_drew ?_ | refine blk_alloc ?_ _)); exact BK126.out))⟩; have n5_ : Aside0 (w54.heap[gb134]? = some (.cells #[.string ((rd_T34 l0_5 x4_1).f0), .string ((rd_T34 l0_5 x4_1).f1), .int .i64 ((rd_T34 l0_5 x4_1).f2), .int .i64 ((rd_T34 l0_5 x4_1).f3), .slice Ao53 x6_2.length co53] 34 (0, 0))) := ⟨(by rw [hw]; exact (by (with_reducible repeat (first | refine blk_drewN ?_ _ | refine blk_drew ?_ | refine blk_alloc ?_ _)); refine blk_put (cs := #[.string ((rd_T34 l0_5 x4_1).f0), .string ((rd_T34 l0_5 x4_1).f1), .int .i64 ((rd_T34 l0_5 x4_1).f2), .int .i64 ((rd_T34 l0_5 x4_1).f3), .slice A133_4 ((rd_T34 l0_5 x4_1).f4).length c133_4]) ?_ 4 _ rfl; (with_reducible repeat (first | refine blk_drewN ?_ _ | refine blk_drew ?_ | refine blk_alloc ?_ _)); exact BK134.out))⟩; have n6_ : Aside0 (Below w.heap.size w w54) := ⟨(by rw [hw]; exact (by repeat (first | (with_reducible first | exact HB.out | apply below_alloc | apply pw_below_drewN | apply below_drew1 | refine below_set ?_ GE125.out | refine below_set ?_ GE126.out | refine below_set ?_ GE134.out) | exact HB.out)))⟩; clear hw; clear HO_3; clear HO_6; clear HO_126004; clear BK125; clear BK126; clear BK134; clear HB; have HO_3 := n0_; have HO_6 := n1_; have HO_126004 := n2_; have BK125 := n3_; have BK126 := n4_; have BK134 := n5_; have HB := n6_; clear n0_ n1_ n2_ n3_ n4_ n5_ n6_; have hcz55_0 : w54.cell? ⟨gb134, 0, none⟩ = some (.string ((rd_T34 l0_5 x4_1).f0)) := (blk_cell BK134.out 0).trans rfl; have hcz55_1 : w54.cell? ⟨gb134, 1, none⟩ = some (.string ((rd_T34 l0_5 x4_1).f1)) := (blk_cell BK134.out 1).trans rfl; have hcz55_2 : w54.cell? ⟨gb134, 2, none⟩ = some (.int .i64 ((rd_T34 l0_5 x4_1).f2)) := (blk_cell BK134.out 2).trans rfl; have hcz55_3 : w54.cell? ⟨gb134, 3, none⟩ = some (.int .i64 ((rd_T34 l0_5 x4_1).f3)) := (blk_cell BK134.out 3).trans rfl; have hcz55_4 : w54.cell? ⟨gb134, 4, none⟩ = some (.slice Ao53 x6_2.length co53) := (blk_cell BK134.out 4).trans rfl; have hfz55_0 := blk_frozen BK134.out 0; have hfz55_1 := blk_frozen BK134.out 1; have hfz55_2 := blk_frozen BK134.out 2; have hfz55_3 := blk_frozen BK134.out 3; have hfz55_4 := blk_frozen BK134.out 4) | ((with_reducible refine gate_builtin (b := .append) (xs := #[.tmp 59, .tmp 61]) rfl ?_); at_builtin; refine Kd.R_append k34 (w0 := w) w.heap.size rfl (.tmp 59) (.tmp 61) 23 34 (.agg #[(.string ⟨#[]⟩), (.string ⟨#[]⟩), (.int .i64 0), (.int .i64 0), (.slice none 0 0)]) 72 rfl Try.underlying23 info34 rfl (by decide) (by omega) u3 x3_1 (⟨((rd_T34 l0_5 x4_1).f0), ((rd_T34 l0_5 x4_1).f1), ((rd_T34 l0_5 x4_1).f2), ((rd_T34 l0_5 x4_1).f3), x6_2⟩ : S34) [.string ((rd_T34 l0_5 x4_1).f0), .string ((rd_T34 l0_5 x4_1).f1), .int .i64 ((rd_T34 l0_5 x4_1).f2), .int .i64 ((rd_T34 l0_5 x4_1).f3), .slice Ao53 x6_2.length co53] (fun k_ => k_ ≠ gb134) (fun k_ => ((fun k_ => k_ ≠ gb134)) k_ ∧ some k_ ≠ (u3 : Value).ownBlock) rfl rfl ?aP (fun _ hk => hk) ?aF ?aO ?aB ?aS ?aL ?_; (case aP => exact k34_mkM _ _ _ (⟨((rd_T34 l0_5 x4_1).f0), ((rd_T34 l0_5 x4_1).f1), ((rd_T34 l0_5 x4_1).f2), ((rd_T34 l0_5 x4_1).f3), x6_2⟩ : S34) (Kd.R_mono (Kd.R_types (Kd.R_apart' ((Kd.S_R HO_6.out)) (Kd.R_typed HO_3.out) (by decide)) BK134.out (by decide)) (fun k_ hk => ⟨hk.2, hk.1.2⟩))); (case aB => exact (by repeat (first | (with_reducible first | exact HB.out | apply below_alloc | apply pw_below_drewN | apply below_drew1 | refine below_set ?_ GE125.out | refine below_set ?_ GE126.out | refine below_set ?_ GE134.out) | exact HB.out))); (case aF => exact (fun k_ hk => Kd.freshB (g := gb134) (o := .cells #[.string ((rd_T34 l0_5 x4_1).f0), .string ((rd_T34 l0_5 x4_1).f1), .int .i64 ((rd_T34 l0_5 x4_1).f2), .int .i64 ((rd_T34 l0_5 x4_1).f3), .slice Ao53 x6_2.length co53] 34 (0, 0)) (by (with_reducible repeat (first | refine blk_drewN ?_ _ | refine blk_drew ?_ | refine blk_alloc ?_ _)); exact BK134.out) k_ hk)); (case aO => exact (by (with_reducible repeat (first | apply Kd.R_alloc | apply Kd.R_drewN | apply Kd.R_drew)); exact Kd.R_mono HO_3.out (fun _ hk => hk.2))); (case aS => exact (below_size (by repeat (first | (with_reducible first | exact HB.out | apply below_alloc | apply pw_below_drewN | apply below_drew1 | refine below_set ?_ GE125.out | refine below_set ?_ GE126.out | refine below_set ?_ GE134.out) | exact HB.out)))); (case aL => have := LMc49.out; omega); intro v136 w56 ho hb hg hat; rw [← Ny135.out] at ho; have n0_ := Aside0.mk (Kd.R_over' (by (with_reducible repeat (first | apply Kd.R_alloc | apply Kd.R_drewN | apply Kd.R_drew)); exact HO_126004.out) (Kd.R_typed (by (with_reducible repeat (first | apply Kd.R_alloc | apply Kd.R_drewN | apply Kd.R_drew)); exact HO_3.out)) (by decide) hg); have n1_ := Aside0.mk (blk_grown (g := gb125) (o := .cells #[.int .i64 a0_0, .int .i64 a0_1, .int .i64 a0_2, .int .i64 a0_3, .slice Ao10 y130.length co10, .slice (some ad133) l0_5.length c0_5] 25 (0, 0)) (by (with_reducible repeat (first | refine blk_drewN ?_ _ | refine blk_drew ?_ | refine blk_alloc ?_ _)); exact BK125.out) hg (Kd.R_ne HO_3.out BK125.out (by decide))); have n2_ := Aside0.mk (blk_grown (g := gb126) (o := .cells #[.int .i64 0, .int .i64 0, .int .i64 0, .int .i64 0, .slice none 0 0, .slice none 0 0] 25 (0, 0)) (by (with_reducible repeat (first | refine blk_drewN ?_ _ | refine blk_drew ?_ | refine blk_alloc ?_ _)); exact BK126.out) hg (Kd.R_ne HO_3.out BK126.out (by decide))); have n3_ := Aside0.mk (blk_grown (g := gb134) (o := .cells #[.string ((rd_T34 l0_5 x4_1).f0), .string ((rd_T34 l0_5 x4_1).f1), .int .i64 ((rd_T34 l0_5 x4_1).f2), .int .i64 ((rd_T34 l0_5 x4_1).f3), .slice Ao53 x6_2.length co53] 34 (0, 0)) (by (with_reducible repeat (first | refine blk_drewN ?_ _ | refine blk_drew ?_ | refine blk_alloc ?_ _)); exact BK134.out) hg (Kd.R_away HO_3.out (fun _ hk => hk.2))); have n4_ := Aside0.mk (hb); have n5_ := Aside0.mk (ho); clear HO_126004; clear BK125; clear BK126; clear BK134; clear HB; clear HO_3; clear HO_6; have HO_126004 := n0_; have BK125 := n1_; have BK126 := n2_; have BK134 := n3_; have HB := n4_; have HO137 := n5_; clear n0_ n1_ n2_ n3_ n4_ n5_; clear ho hb hg hat))
                    go_roundg k2
                    case measure => have := HK1.out; have := HK2.out; omega
                    case rel => exact ⟨(y135), (wrap64 (x4_1 + 1)), (by first | rfl | (simp; done) | (simp [*]; done)), H', ⟨by have := HK1.out; have := HK2.out; omega⟩, ⟨by (with_reducible repeat (first | apply Kd.R_alloc | apply Kd.R_drewN | apply Kd.R_drew)); exact Kd.R_mono HO137.out (fun _ hk => trivial)⟩, ⟨by (with_reducible repeat (first | apply Kd.R_alloc | apply Kd.R_drewN | apply Kd.R_drew)); exact HO_126004.out⟩, ⟨by (with_reducible repeat (first | refine blk_drewN ?_ _ | refine blk_drew ?_ | refine blk_alloc ?_ _)); exact BK125.out⟩, ⟨by (with_reducible repeat (first | refine blk_drewN ?_ _ | refine blk_drew ?_ | refine blk_alloc ?_ _)); exact BK126.out⟩, ⟨by repeat (first | (with_reducible first | exact HB.out | apply below_alloc | apply pw_below_drewN | apply below_drew1 | refine below_set ?_ GE125.out | refine below_set ?_ GE126.out | refine below_set ?_ GE134.out) | exact HB.out)⟩⟩
                  · rw [if_neg c49] at H
                    exact absurd H (by simp)
          · rw [if_neg c13] at H
            exact absurd H (by simp)
        · rw [if_neg c12] at H
          have c12b0 : decide (x4_1 < (l0_5.length : Int)) = false := decide_eq_false c12
          clear c12
          simp only [Option.some.injEq, Prod.mk.injEq] at H
          obtain ⟨rfl, rfl, rfl, rfl, rfl, rfl⟩ := H
          have hnb57 := NB125_126.out
          have hnc57 := NB126_125.out
          have hcz58_0 : wr.cell? ⟨gb125, 0, none⟩ = some (.int .i64 a0_0) := (blk_cell BK125.out 0).trans rfl
          have hcz58_1 : wr.cell? ⟨gb125, 1, none⟩ = some (.int .i64 a0_1) := (blk_cell BK125.out 1).trans rfl
          have hcz58_2 : wr.cell? ⟨gb125, 2, none⟩ = some (.int .i64 a0_2) := (blk_cell BK125.out 2).trans rfl
          have hcz58_3 : wr.cell? ⟨gb125, 3, none⟩ = some (.int .i64 a0_3) := (blk_cell BK125.out 3).trans rfl
          have hcz58_4 : wr.cell? ⟨gb125, 4, none⟩ = some (.slice Ao10 y130.length co10) := (blk_cell BK125.out 4).trans rfl
          have hcz58_5 : wr.cell? ⟨gb125, 5, none⟩ = some (.slice A0_5 l0_5.length c0_5) := (blk_cell BK125.out 5).trans rfl
          have hfz58_0 := blk_frozen BK125.out 0
          have hfz58_1 := blk_frozen BK125.out 1
          have hfz58_2 := blk_frozen BK125.out 2
          have hfz58_3 := blk_frozen BK125.out 3
          have hfz58_4 := blk_frozen BK125.out 4
          have hfz58_5 := blk_frozen BK125.out 5
          obtain ⟨Ao59, co59, eo59⟩ := Kd.R_slice HO_3.out
          subst eo59
          have hcz60_0 : wr.cell? ⟨gb126, 0, none⟩ = some (.int .i64 0) := (blk_cell BK126.out 0).trans rfl
          have hcz60_1 : wr.cell? ⟨gb126, 1, none⟩ = some (.int .i64 0) := (blk_cell BK126.out 1).trans rfl
          have hcz60_2 : wr.cell? ⟨gb126, 2, none⟩ = some (.int .i64 0) := (blk_cell BK126.out 2).trans rfl
          have hcz60_3 : wr.cell? ⟨gb126, 3, none⟩ = some (.int .i64 0) := (blk_cell BK126.out 3).trans rfl
          have hcz60_4 : wr.cell? ⟨gb126, 4, none⟩ = some (.slice none 0 0) := (blk_cell BK126.out 4).trans rfl
          have hcz60_5 : wr.cell? ⟨gb126, 5, none⟩ = some (.slice none 0 0) := (blk_cell BK126.out 5).trans rfl
          have hfz60_0 := blk_frozen BK126.out 0
          have hfz60_1 := blk_frozen BK126.out 1
          have hfz60_2 := blk_frozen BK126.out 2
          have hfz60_3 := blk_frozen BK126.out 3
          have hfz60_4 := blk_frozen BK126.out 4
          have hfz60_5 := blk_frozen BK126.out 5
          go_wp2
          refine bodyPost_ret (results_cell_row rfl _ _ gb126 25 #[.int .i64 a0_0, .int .i64 a0_1, .int .i64 a0_2, .int .i64 a0_3, .slice Ao10 y130.length co10, .slice Ao59 x3_1.length co59] (0, 0) _ rfl (by (with_reducible repeat (first | refine blk_drewN ?_ _ | refine blk_drew ?_ | refine blk_alloc ?_ _)); refine blk_put (cs := #[.int .i64 a0_0, .int .i64 a0_1, .int .i64 a0_2, .int .i64 a0_3, .slice Ao10 y130.length co10, .slice none 0 0]) ?_ 5 _ rfl; (with_reducible repeat (first | refine blk_drewN ?_ _ | refine blk_drew ?_ | refine blk_alloc ?_ _)); refine blk_put (cs := #[.int .i64 a0_0, .int .i64 a0_1, .int .i64 a0_2, .int .i64 a0_3, .slice none 0 0, .slice none 0 0]) ?_ 4 _ rfl; (with_reducible repeat (first | refine blk_drewN ?_ _ | refine blk_drew ?_ | refine blk_alloc ?_ _)); refine blk_put (cs := #[.int .i64 a0_0, .int .i64 a0_1, .int .i64 a0_2, .int .i64 0, .slice none 0 0, .slice none 0 0]) ?_ 3 _ rfl; (with_reducible repeat (first | refine blk_drewN ?_ _ | refine blk_drew ?_ | refine blk_alloc ?_ _)); refine blk_put (cs := #[.int .i64 a0_0, .int .i64 a0_1, .int .i64 0, .int .i64 0, .slice none 0 0, .slice none 0 0]) ?_ 2 _ rfl; (with_reducible repeat (first | refine blk_drewN ?_ _ | refine blk_drew ?_ | refine blk_alloc ?_ _)); refine blk_put (cs := #[.int .i64 a0_0, .int .i64 0, .int .i64 0, .int .i64 0, .slice none 0 0, .slice none 0 0]) ?_ 1 _ rfl; (with_reducible repeat (first | refine blk_drewN ?_ _ | refine blk_drew ?_ | refine blk_alloc ?_ _)); refine blk_put (cs := #[.int .i64 0, .int .i64 0, .int .i64 0, .int .i64 0, .slice none 0 0, .slice none 0 0]) ?_ 0 _ rfl; (with_reducible repeat (first | refine blk_drewN ?_ _ | refine blk_drew ?_ | refine blk_alloc ?_ _)); refine blk_far ?_ NB126_125.out _; (with_reducible repeat (first | refine blk_drewN ?_ _ | refine blk_drew ?_ | refine blk_alloc ?_ _)); exact BK126.out) Try.underlying25 rfl (by kernel_rfl)) rfl ?_
          exact ⟨_, _, by first | rfl | (simp [errW_none, errW_some] <;> rfl) | (simp [*, errW_none, errW_some] <;> rfl), by (with_reducible repeat (first | apply Kd.R_alloc | apply Kd.R_drewN | apply Kd.R_drew)); exact Kd.R_mono (Kd.R_far (p := ⟨gb126, 5, none⟩) (Kd.R_far (p := ⟨gb126, 4, none⟩) (Kd.R_far (p := ⟨gb126, 3, none⟩) (Kd.R_far (p := ⟨gb126, 2, none⟩) (Kd.R_far (p := ⟨gb126, 1, none⟩) (Kd.R_far (p := ⟨gb126, 0, none⟩) (Kd.R_far (p := ⟨gb125, 5, none⟩) (Kd.R_types (Kd.R_types HO_126004.out BK125.out (by decide)) BK126.out (by decide)) (fun _ hk => hk.1.2) (.slice Ao59 x3_1.length co59)) (fun _ hk => hk.2) (.int .i64 a0_0)) (fun _ hk => hk.2) (.int .i64 a0_1)) (fun _ hk => hk.2) (.int .i64 a0_2)) (fun _ hk => hk.2) (.int .i64 a0_3)) (fun _ hk => hk.2) (.slice Ao10 y130.length co10)) (fun _ hk => hk.2) (.slice Ao59 x3_1.length co59)) (fun _ hk => trivial), by (with_reducible repeat (first | apply Kd.R_alloc | apply Kd.R_drewN | apply Kd.R_drew)); exact Kd.R_mono (Kd.R_far (p := ⟨gb126, 5, none⟩) (Kd.R_far (p := ⟨gb126, 4, none⟩) (Kd.R_far (p := ⟨gb126, 3, none⟩) (Kd.R_far (p := ⟨gb126, 2, none⟩) (Kd.R_far (p := ⟨gb126, 1, none⟩) (Kd.R_far (p := ⟨gb126, 0, none⟩) (Kd.R_far (p := ⟨gb125, 5, none⟩) (Kd.R_types (Kd.R_types HO_3.out BK125.out (by decide)) BK126.out (by decide)) (fun _ hk => hk.1.2) (.slice Ao59 x3_1.length co59)) (fun _ hk => hk.2) (.int .i64 a0_0)) (fun _ hk => hk.2) (.int .i64 a0_1)) (fun _ hk => hk.2) (.int .i64 a0_2)) (fun _ hk => hk.2) (.int .i64 a0_3)) (fun _ hk => hk.2) (.slice Ao10 y130.length co10)) (fun _ hk => hk.2) (.slice Ao59 x3_1.length co59)) (fun _ hk => trivial), by repeat (first | (with_reducible first | exact HB.out | apply below_alloc | apply pw_below_drewN | apply below_drew1 | refine below_set ?_ GE125.out | refine below_set ?_ GE126.out) | exact HB.out)⟩
  · rw [if_neg c2] at H
    exact absurd H (by simp)

end Go.Proofs.Ytnbnaflhijfamaa.PFillAll
