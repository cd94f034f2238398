/- The walk of the program's function fill.Fill: what is filled, in memory of its own. -/
import Derived.Test.YtnbnaflhijfamaaFillState
namespace Go.Proofs.Ytnbnaflhijfamaa.FillWalk
open Go.RowKit Go.Proofs.YtnbnaflhijfamaaW.PrintWords Go.Proofs.YtnbnaflhijfamaaW.PrintLast Go.Proofs.YtnbnaflhijfamaaW.PrintMore Go.Proofs.Ytnbnaflhijfamaa.PFillAll Go.Proofs.Ytnbnaflhijfamaa.FillMap Go.Proofs.Ytnbnaflhijfamaa.FillState
attribute [local go_sem] max2_int min2_int max_two min_two max_three min_three max_four min_four   -- for this text's walks alone
set_option linter.unusedVariables false
set_option linter.unusedSimpArgs false
section
variable {ops : Array Oper} {rest : List Oper} {o : Oper} {a : Act} {Q : Exit → Act → World → Prop}
theorem map_event {W : World} (hgd : o.guard = none) (hrun : (execOp a.eval o).run Try.prog W = .ok (.value (.map (some W.heap.size))) (W.alloc (.map #[] 0)))
    (h : ∀ m W', m = W.heap.size → MapIs W' m [] → Below W.heap.size W W' → wpList Try.prog ops Q rest (a.put o.dst (.map (some m))) W') : wpList Try.prog ops Q (o :: rest) a W :=
  Kd.event_run hgd hrun (h _ _ rfl (MapIs.made W) (below_alloc (Below.refl _ _) _))
/-- A new block: the world behind it goes by what it holds. -/
theorem new_world {W : World} {cs : Array Value} {t : TypeId} (h : ∀ W', W'.heap[W.heap.size]? = some (.cells cs t (0, 0)) → Below W.heap.size W W' → wpList Try.prog ops Q rest a W') : wpList Try.prog ops Q rest a (W.alloc (.cells cs t (0, 0))) :=
  h _ (blk_new W _) (below_alloc (Below.refl _ _) _)
end
theorem fall {n i : Nat} (h : i < n) (hn : n < 1000) : n - (intOf (Value.int .i64 (wrap64 ((i : Int) + 1)))).toNat < n - (intOf (Value.int .i64 (i : Int))).toNat := by
  have hw : wrap64 ((i : Int) + 1) = ((i + 1 : Nat) : Int) := by unfold wrap64; omega
  rw [hw]
  show n - (((i + 1 : Nat) : Int)).toNat < n - ((i : Int)).toNat
  rw [Int.toNat_natCast, Int.toNat_natCast]
  omega
theorem rise {n i : Nat} (h : i < n) (hn : n < 1000) : Value.int .i64 (wrap64 ((i : Int) + 1)) = Value.int .i64 ((i + 1 : Nat) : Int) := by
  have hw : wrap64 ((i : Int) + 1) = ((i + 1 : Nat) : Int) := by unfold wrap64; omega
  rw [hw]
theorem take_snoc {l : List S31} {i : Nat} (h : i < l.length) : l.take (i + 1) = l.take i ++ [l.getD i z31] := by
  rw [List.take_succ_eq_append_getElem h]
  simp [h]
theorem take_snoc34 {l : List S34} {i : Nat} (h : i < l.length) : l.take (i + 1) = l.take i ++ [l.getD i z34] := by
  rw [List.take_succ_eq_append_getElem h]
  simp [h]
def fill_Fill.T1 : Bool × List (List Nat × List Nat) := (true, [([], []), ([0], [0]), ([1], [1]), ([], []), ([3], [3]), ([4, 2], [4]), ([], []), ([6], [6]), ([7, 5], [7]), ([], []), ([9], [9]), ([10, 8], [10]), ([2, 5, 8, 11], [2, 5, 8, 11]), ([], []), ([13, 12, 11, 0, 1, 2, 3, 4, 5, 6, 7, 8, 9, 10, 11, 12, 13], [12, 13])])
def fill_Fill.B1 : List Nat := [0, 1, 3, 0, 8, 31, 0, 64, 255, 0, 512, 2047, 4095, 0, 16383]
theorem fill_Fill.tab1 : rtab .any (opsOf Try.f14 1) = fill_Fill.T1 := by kernel_rfl
theorem fill_Fill.bits1 : waitsOk fill_Fill.T1.2 fill_Fill.B1 = true := by kernel_rfl
def fill_Fill.T12 : Bool × List (List Nat × List Nat) := (true, [([], []), ([0], [0]), ([], []), ([2], [2]), ([3], [3]), ([1, 4, 3], [1, 4]), ([0, 1, 2, 3, 4, 5], []), ([6, 5, 5, 0, 1, 2, 3, 4, 5], [5, 6])])
def fill_Fill.B12 : List Nat := [0, 1, 0, 4, 12, 31, 63, 127]
theorem fill_Fill.tab12 : rtab .any (opsOf Try.f14 12) = fill_Fill.T12 := by kernel_rfl
theorem fill_Fill.bits12 : waitsOk fill_Fill.T12.2 fill_Fill.B12 = true := by kernel_rfl
def exS : ByteArray := ⟨#[101, 120, 101, 109, 112, 116]⟩
def caS : ByteArray := ⟨#[99, 97, 116, 99, 104, 45, 97, 108, 108]⟩
def msS : ByteArray := ⟨#[115, 121, 115, 116, 101, 109, 58, 109, 97, 115, 116, 101, 114, 115]⟩
def stS : ByteArray := ⟨#[42]⟩
def exL : S31 := ⟨⟨#[101, 120, 101, 109, 112, 116]⟩, 1, 0, 0, 0, 0, 0, 0, 0, 0⟩
def caL : S31 := ⟨⟨#[99, 97, 116, 99, 104, 45, 97, 108, 108]⟩, 2, 5, 0, -1, 0, 0, 0, 0, 0⟩
def exR : S37 := ⟨[], [⟨#[115, 121, 115, 116, 101, 109, 58, 109, 97, 115, 116, 101, 114, 115]⟩], [⟨#[42]⟩], [⟨#[42]⟩], [⟨#[42]⟩]⟩
def caR : S37 := ⟨[⟨#[42]⟩], [], [⟨#[42]⟩], [⟨#[42]⟩], [⟨#[42]⟩]⟩
def exC : S34 := ⟨⟨#[101, 120, 101, 109, 112, 116]⟩, ⟨#[101, 120, 101, 109, 112, 116]⟩, 1, 0, [exR]⟩
def caC : S34 := ⟨⟨#[99, 97, 116, 99, 104, 45, 97, 108, 108]⟩, ⟨#[99, 97, 116, 99, 104, 45, 97, 108, 108]⟩, 10000, 1, [caR]⟩
set_option maxHeartbeats 8000000 in
set_option maxRecDepth 100000 in
theorem walk (a0_0 : Int) (a0_1 : Int) (a0_2 : Int) (a0_3 : Int) (A0_4 : Option Addr) (c0_4 : Nat) (l0_4 : List (S31)) (A0_5 : Option Addr) (c0_5 : Nat) (l0_5 : List (S34)) (t134 t135 t136 t137 : Int) (w : World) (HR0_4 : Aside0 (Kd.C k31 w A0_4 l0_4.length l0_4)) (HC0_4 : Aside0 (l0_4.length ≤ c0_4)) (HR0_5 : Aside0 (Kd.C k34 w A0_5 l0_5.length l0_5)) (HC0_5 : Aside0 (l0_5.length ≤ c0_5))
    (A2 : Aside0 (fill_or.f a0_0 100 = some t134)) (A3 : Aside0 (fill_or.f a0_1 10 = some t135)) (A4 : Aside0 (fill_or.f a0_2 100 = some t136)) (A5 : Aside0 (fill_or.f a0_3 10 = some t137))
    (N4 : Aside0 (l0_4.length < 1000 ∧ ∀ x ∈ l0_4, x.f0.size ≤ maxLen)) (N5 : Aside0 (l0_5.length < 1000 ∧ ∀ x ∈ l0_5, x.f0.size ≤ maxLen))
    (NS : Aside0 (∀ x ∈ l0_5, ∀ A4 c4 W, Kd.C k37 W A4 x.f4.length x.f4 → x.f4.length ≤ c4 → Calls Try.prog 28 #[.agg #[.string x.f0, .string x.f1, .int .i64 x.f2, .int .i64 x.f3, .slice A4 x.f4.length c4]] W fun e W' => ∃ v4, e = .returned (.agg #[.string x.f0, .string x.f1, .int .i64 x.f2, .int .i64 x.f3, v4]) ∧ Kd.R k37 37 W' W.heap.size (fun _ => True) v4 x.f4 ∧ Below W.heap.size W W'))
    (M4 M5 : List ByteArray) (HM4 : Aside0 (M4 = l0_4.map (·.f0))) (HM5 : Aside0 (M5 = l0_5.map (·.f0))) (L1 L2 : List S31) (S1 S2 : List S34) (HL1 : Aside0 (L1 = if cnt exS M4 = 0 then l0_4 ++ [exL] else l0_4)) (HL2 : Aside0 (L2 = if cnt caS M4 = 0 then L1 ++ [caL] else L1)) (HS1_ : Aside0 (S1 = if cnt exS M5 = 0 then l0_5 ++ [exC] else l0_5)) (HS2_ : Aside0 (S2 = if cnt caS M5 = 0 then S1 ++ [caC] else S1)) (HN : Aside0 (L1.length < 2000 ∧ S1.length < 2000)) :
    Calls Try.prog 14 #[.agg #[.int .i64 a0_0, .int .i64 a0_1, .int .i64 a0_2, .int .i64 a0_3, .slice A0_4 l0_4.length c0_4, .slice A0_5 l0_5.length c0_5]] w fun e w' => ∃ v4_ v5_ : Value, e = .returned (.agg #[.int .i64 t134, .int .i64 t135, .int .i64 t136, .int .i64 t137, v4_, v5_]) ∧ Kd.R k31 31 w' w.heap.size (fun _ => True) v4_ L2 ∧ Kd.R k34 34 w' w.heap.size (fun _ => True) v5_ S2 ∧ Below w.heap.size w w' := by
  have hu25 := Try.underlying25
  have hu31 := Try.underlying31
  have hu34 := Try.underlying34
  have HB := Aside0.mk (Below.refl w.heap.size w)
  go_enter Try.func14, Try.ntmps14
  try go_wp2_with (first | ((with_reducible refine gate_dst (N := 1) rfl ?_); refine box_event ?hg (N := 1) ?hd (cs := #[.int .i64 a0_0, .int .i64 a0_1, .int .i64 a0_2, .int .i64 a0_3, .slice A0_4 l0_4.length c0_4, .slice A0_5 l0_5.length c0_5]) (t := 25) ?hr ?_; (case hd => rfl); (case hg => rfl); (case hr => first | (go_simp; done) | (go_simp; rfl)); intro gb132 hg w6 hbox hb; have n0_ := Aside0.mk (below_step (by repeat (first | (with_reducible first | exact HB.out | apply below_alloc | apply pw_below_drewN | apply below_drew1) | exact HB.out)) hb); have n1_ := Aside0.mk (hbox); have n2_ := Aside0.mk ((by rw [hg]; exact (below_size (by repeat (first | (with_reducible first | exact HB.out | apply below_alloc | apply pw_below_drewN | apply below_drew1) | exact HB.out))) : w.heap.size ≤ gb132)); have n3_ := Aside0.mk ((by rw [hg]; exact (below_size (by repeat (first | (with_reducible first | exact HB.out | apply below_alloc | apply pw_below_drewN | apply below_drew1) | exact HB.out))) : w.heap.size ≤ gb132)); clear HB; have HB := n0_; have BK132 := n1_; have GW132 := n2_; have GE132 := n3_; clear n0_ n1_ n2_ n3_; clear hb hbox hg) | ((with_reducible refine gate_dst (N := 2) rfl ?_); refine box_event ?hg (N := 2) ?hd (cs := #[.int .i64 0, .int .i64 0, .int .i64 0, .int .i64 0, .slice none 0 0, .slice none 0 0]) (t := 25) ?hr ?_; (case hd => rfl); (case hg => rfl); (case hr => first | (go_simp; done) | (go_simp; rfl)); intro gb133 hg w7 hbox hb; have n0_ := Aside0.mk (blk_below (g := gb132) (o := .cells #[.int .i64 a0_0, .int .i64 a0_1, .int .i64 a0_2, .int .i64 a0_3, .slice A0_4 l0_4.length c0_4, .slice A0_5 l0_5.length c0_5] 25 (0, 0)) (by (with_reducible repeat (first | refine blk_drewN ?_ _ | refine blk_drew ?_ | refine blk_alloc ?_ _)); exact BK132.out) hb); have n1_ := Aside0.mk (below_step (by repeat (first | (with_reducible first | exact HB.out | apply below_alloc | apply pw_below_drewN | apply below_drew1 | refine below_set ?_ GE132.out) | exact HB.out)) hb); have n2_ := Aside0.mk (hbox); have n3_ := Aside0.mk ((by rw [hg]; exact (below_size (by repeat (first | (with_reducible first | exact HB.out | apply below_alloc | apply pw_below_drewN | apply below_drew1 | refine below_set ?_ GE132.out) | exact HB.out))) : w.heap.size ≤ gb133)); have n4_ := Aside0.mk ((by rw [hg]; exact (below_size (by repeat (first | (with_reducible first | exact HB.out | apply below_alloc | apply pw_below_drewN | apply below_drew1 | refine below_set ?_ GE132.out) | exact HB.out))) : w.heap.size ≤ gb133)); have n5_ := Aside0.mk ((by rw [hg]; exact Nat.ne_of_lt (blk_lt (g := gb132) (o := .cells #[.int .i64 a0_0, .int .i64 a0_1, .int .i64 a0_2, .int .i64 a0_3, .slice A0_4 l0_4.length c0_4, .slice A0_5 l0_5.length c0_5] 25 (0, 0)) (by (with_reducible repeat (first | refine blk_drewN ?_ _ | refine blk_drew ?_ | refine blk_alloc ?_ _)); exact BK132.out)) : gb132 ≠ gb133)); have n6_ := Aside0.mk ((by rw [hg]; exact Nat.ne_of_gt (blk_lt (g := gb132) (o := .cells #[.int .i64 a0_0, .int .i64 a0_1, .int .i64 a0_2, .int .i64 a0_3, .slice A0_4 l0_4.length c0_4, .slice A0_5 l0_5.length c0_5] 25 (0, 0)) (by (with_reducible repeat (first | refine blk_drewN ?_ _ | refine blk_drew ?_ | refine blk_alloc ?_ _)); exact BK132.out)) : gb133 ≠ gb132)); clear BK132; clear HB; have BK132 := n0_; have HB := n1_; have BK133 := n2_; have GW133 := n3_; have GE133 := n4_; have NB132_133 := n5_; have NB133_132 := n6_; clear n0_ n1_ n2_ n3_ n4_ n5_ n6_; clear hb hbox hg))
  have n0_ := Aside0.mk (blk_drew BK132.out)
  have n1_ := Aside0.mk (blk_drew BK133.out)
  have n2_ := Aside0.mk (below_drew1 HB.out)
  clear BK132
  clear BK133
  clear HB
  have BK132 := n0_
  have BK133 := n1_
  have HB := n2_
  clear n0_ n1_ n2_
  refine start_ (n := 15) (S := fun w' => w'.cell? ⟨gb132, 0, none⟩ = some (.int .i64 a0_0) ∧ w'.cell? ⟨gb132, 1, none⟩ = some (.int .i64 a0_1) ∧ w'.cell? ⟨gb132, 2, none⟩ = some (.int .i64 a0_2) ∧ w'.cell? ⟨gb132, 3, none⟩ = some (.int .i64 a0_3) ∧ w'.cell? ⟨gb132, 4, none⟩ = some (.slice A0_4 l0_4.length c0_4) ∧ w'.cell? ⟨gb132, 5, none⟩ = some (.slice A0_5 l0_5.length c0_5)) (ds := []) #[false, false, false, false, false, false, false, false, false, false, false, false, false, false, false] (by kernel_rfl) rfl rfl ⟨(blk_cell BK132.out 0).trans rfl, (blk_cell BK132.out 1).trans rfl, (blk_cell BK132.out 2).trans rfl, (blk_cell BK132.out 3).trans rfl, (blk_cell BK132.out 4).trans rfl, (blk_cell BK132.out 5).trans rfl⟩ (fun hHeld => ?_); refine with_tabW fill_Fill.tab1 fill_Fill.bits1 (fun HT_ HW_ => ?_)
  generalize w7.drew = w8 at BK132 BK133 HB hHeld ⊢
  refine pure_ (i := 0) (N := some 12) (v := ?_) (a' := ?_) #[true, false, false, false, false, false, false, false, false, false, false, false, false, false, false] rfl rfl (any_of HT_.out (by kernel_rfl)) (fun _ _ _ h => h) (Or.inl ⟨by rfl, ?_⟩) ?_ ?_
  rotate_left
  · intro w'
    go_simp
    with_reducible rfl
  rotate_left
  · simp only [Act.put, List.setIfInBounds_toArray, List.set_cons_zero, List.set_cons_succ, i64_w, i32_w]
    rfl
  refine pure_ (i := 3) (N := some 15) (v := ?_) (a' := ?_) #[true, false, false, true, false, false, false, false, false, false, false, false, false, false, false] rfl rfl (any_of HT_.out (by kernel_rfl)) (fun _ _ _ h => h) (Or.inl ⟨by rfl, ?_⟩) ?_ ?_
  rotate_left
  · intro w'
    go_simp
    with_reducible rfl
  rotate_left
  · simp only [Act.put, List.setIfInBounds_toArray, List.set_cons_zero, List.set_cons_succ, i64_w, i32_w]
    rfl
  refine pure_ (i := 6) (N := some 18) (v := ?_) (a' := ?_) #[true, false, false, true, false, false, true, false, false, false, false, false, false, false, false] rfl rfl (any_of HT_.out (by kernel_rfl)) (fun _ _ _ h => h) (Or.inl ⟨by rfl, ?_⟩) ?_ ?_
  rotate_left
  · intro w'
    go_simp
    with_reducible rfl
  rotate_left
  · simp only [Act.put, List.setIfInBounds_toArray, List.set_cons_zero, List.set_cons_succ, i64_w, i32_w]
    rfl
  refine pure_ (i := 9) (N := some 21) (v := ?_) (a' := ?_) #[true, false, false, true, false, false, true, false, false, true, false, false, false, false, false] rfl rfl (any_of HT_.out (by kernel_rfl)) (fun _ _ _ h => h) (Or.inl ⟨by rfl, ?_⟩) ?_ ?_
  rotate_left
  · intro w'
    go_simp
    with_reducible rfl
  rotate_left
  · simp only [Act.put, List.setIfInBounds_toArray, List.set_cons_zero, List.set_cons_succ, i64_w, i32_w]
    rfl
  refine take_ (i := 1) (N := some 13) (v := ?_) (a' := ?_) #[true, true, false, true, false, false, true, false, false, true, false, false, false, false, false] rfl rfl (take_ofW HT_.out HW_.out (by kernel_rfl)) (fun _ _ _ h => h) (Or.inl ⟨by rfl, ?_⟩) hHeld ?_ ?_
  rotate_left
  · rintro w' ⟨s0, s1, s2, s3, s4, s5⟩
    go_simp
    with_reducible rfl
  rotate_left
  · simp only [Act.put, List.setIfInBounds_toArray, List.set_cons_zero, List.set_cons_succ, i64_w, i32_w]
    rfl
  refine take_ (i := 4) (N := some 16) (v := ?_) (a' := ?_) #[true, true, false, true, true, false, true, false, false, true, false, false, false, false, false] rfl rfl (take_ofW HT_.out HW_.out (by kernel_rfl)) (fun _ _ _ h => h) (Or.inl ⟨by rfl, ?_⟩) hHeld ?_ ?_
  rotate_left
  · rintro w' ⟨s0, s1, s2, s3, s4, s5⟩
    go_simp
    with_reducible rfl
  rotate_left
  · simp only [Act.put, List.setIfInBounds_toArray, List.set_cons_zero, List.set_cons_succ, i64_w, i32_w]
    rfl
  refine take_ (i := 7) (N := some 19) (v := ?_) (a' := ?_) #[true, true, false, true, true, false, true, true, false, true, false, false, false, false, false] rfl rfl (take_ofW HT_.out HW_.out (by kernel_rfl)) (fun _ _ _ h => h) (Or.inl ⟨by rfl, ?_⟩) hHeld ?_ ?_
  rotate_left
  · rintro w' ⟨s0, s1, s2, s3, s4, s5⟩
    go_simp
    with_reducible rfl
  rotate_left
  · simp only [Act.put, List.setIfInBounds_toArray, List.set_cons_zero, List.set_cons_succ, i64_w, i32_w]
    rfl
  refine take_ (i := 10) (N := some 22) (v := ?_) (a' := ?_) #[true, true, false, true, true, false, true, true, false, true, true, false, false, false, false] rfl rfl (take_ofW HT_.out HW_.out (by kernel_rfl)) (fun _ _ _ h => h) (Or.inl ⟨by rfl, ?_⟩) hHeld ?_ ?_
  rotate_left
  · rintro w' ⟨s0, s1, s2, s3, s4, s5⟩
    go_simp
    with_reducible rfl
  rotate_left
  · simp only [Act.put, List.setIfInBounds_toArray, List.set_cons_zero, List.set_cons_succ, i64_w, i32_w]
    rfl
  refine join_ (σ := Nat) 1 #[true, true, true, true, true, true, true, true, true, true, true, true, true, true, false] (fun s_ => [(14, .int .i64 t134), (17, .int .i64 t135), (20, .int .i64 t136), (23, .int .i64 t137), (3, .pointer (some ⟨s_, 0, none⟩)), (24, .agg #[.int .i64 t134, .int .i64 t135, .int .i64 t136, .int .i64 t137, .slice none 0 0, .slice none 0 0])]) (fun s_ w' => (w'.cell? ⟨gb132, 0, none⟩ = some (.int .i64 a0_0) ∧ w'.cell? ⟨gb132, 1, none⟩ = some (.int .i64 a0_1) ∧ w'.cell? ⟨gb132, 2, none⟩ = some (.int .i64 a0_2) ∧ w'.cell? ⟨gb132, 3, none⟩ = some (.int .i64 a0_3) ∧ w'.cell? ⟨gb132, 4, none⟩ = some (.slice A0_4 l0_4.length c0_4) ∧ w'.cell? ⟨gb132, 5, none⟩ = some (.slice A0_5 l0_5.length c0_5)) ∧ (w'.heap[gb132]? = some (.cells #[.int .i64 a0_0, .int .i64 a0_1, .int .i64 a0_2, .int .i64 a0_3, .slice A0_4 l0_4.length c0_4, .slice A0_5 l0_5.length c0_5] 25 (0, 0))) ∧ (w'.heap[gb133]? = some (.cells #[.int .i64 0, .int .i64 0, .int .i64 0, .int .i64 0, .slice none 0 0, .slice none 0 0] 25 (0, 0))) ∧ (w'.heap[s_]? = some (.cells #[.int .i64 0, .int .i64 0, .int .i64 0, .int .i64 0, .slice none 0 0, .slice none 0 0] 25 (0, 0))) ∧ (w.heap.size ≤ s_) ∧ (w.heap.size ≤ s_) ∧ (gb132 ≠ s_) ∧ (s_ ≠ gb132) ∧ (gb133 ≠ s_) ∧ (s_ ≠ gb133) ∧ (Below w.heap.size w w')) ?_ ?_
  rotate_left
  · intro hJ2_5_8_11_13
    refine join_ (σ := Unit) 2 #[true, true, true, true, true, true, true, true, true, true, true, true, true, false, false] (fun s_ => [(14, .int .i64 t134), (17, .int .i64 t135), (20, .int .i64 t136), (23, .int .i64 t137), (24, .agg #[.int .i64 t134, .int .i64 t135, .int .i64 t136, .int .i64 t137, .slice none 0 0, .slice none 0 0])]) (fun s_ w' => (w'.cell? ⟨gb132, 0, none⟩ = some (.int .i64 a0_0) ∧ w'.cell? ⟨gb132, 1, none⟩ = some (.int .i64 a0_1) ∧ w'.cell? ⟨gb132, 2, none⟩ = some (.int .i64 a0_2) ∧ w'.cell? ⟨gb132, 3, none⟩ = some (.int .i64 a0_3) ∧ w'.cell? ⟨gb132, 4, none⟩ = some (.slice A0_4 l0_4.length c0_4) ∧ w'.cell? ⟨gb132, 5, none⟩ = some (.slice A0_5 l0_5.length c0_5)) ∧ (w'.heap[gb132]? = some (.cells #[.int .i64 a0_0, .int .i64 a0_1, .int .i64 a0_2, .int .i64 a0_3, .slice A0_4 l0_4.length c0_4, .slice A0_5 l0_5.length c0_5] 25 (0, 0))) ∧ (w'.heap[gb133]? = some (.cells #[.int .i64 0, .int .i64 0, .int .i64 0, .int .i64 0, .slice none 0 0, .slice none 0 0] 25 (0, 0))) ∧ (Below w.heap.size w w')) ?_ ?_
    rotate_left
    · intro hJ2_5_8_11
      refine join_ (σ := Nat) 3 #[true, true, true, true, true, true, true, true, true, true, true, false, false, true, false] (fun s_ => [(14, .int .i64 t134), (17, .int .i64 t135), (20, .int .i64 t136), (3, .pointer (some ⟨s_, 0, none⟩))]) (fun s_ w' => (w'.cell? ⟨gb132, 0, none⟩ = some (.int .i64 a0_0) ∧ w'.cell? ⟨gb132, 1, none⟩ = some (.int .i64 a0_1) ∧ w'.cell? ⟨gb132, 2, none⟩ = some (.int .i64 a0_2) ∧ w'.cell? ⟨gb132, 3, none⟩ = some (.int .i64 a0_3) ∧ w'.cell? ⟨gb132, 4, none⟩ = some (.slice A0_4 l0_4.length c0_4) ∧ w'.cell? ⟨gb132, 5, none⟩ = some (.slice A0_5 l0_5.length c0_5)) ∧ (w'.heap[gb132]? = some (.cells #[.int .i64 a0_0, .int .i64 a0_1, .int .i64 a0_2, .int .i64 a0_3, .slice A0_4 l0_4.length c0_4, .slice A0_5 l0_5.length c0_5] 25 (0, 0))) ∧ (w'.heap[gb133]? = some (.cells #[.int .i64 0, .int .i64 0, .int .i64 0, .int .i64 0, .slice none 0 0, .slice none 0 0] 25 (0, 0))) ∧ (w'.heap[s_]? = some (.cells #[.int .i64 0, .int .i64 0, .int .i64 0, .int .i64 0, .slice none 0 0, .slice none 0 0] 25 (0, 0))) ∧ (w.heap.size ≤ s_) ∧ (w.heap.size ≤ s_) ∧ (gb132 ≠ s_) ∧ (s_ ≠ gb132) ∧ (gb133 ≠ s_) ∧ (s_ ≠ gb133) ∧ (Below w.heap.size w w')) ?_ ?_
      rotate_left
      · intro hJ2_5_8_13
        refine join_ (σ := Unit) 4 #[true, true, true, true, true, true, true, true, true, true, true, false, false, false, false] (fun s_ => [(14, .int .i64 t134), (17, .int .i64 t135), (20, .int .i64 t136)]) (fun s_ w' => (w'.cell? ⟨gb132, 0, none⟩ = some (.int .i64 a0_0) ∧ w'.cell? ⟨gb132, 1, none⟩ = some (.int .i64 a0_1) ∧ w'.cell? ⟨gb132, 2, none⟩ = some (.int .i64 a0_2) ∧ w'.cell? ⟨gb132, 3, none⟩ = some (.int .i64 a0_3) ∧ w'.cell? ⟨gb132, 4, none⟩ = some (.slice A0_4 l0_4.length c0_4) ∧ w'.cell? ⟨gb132, 5, none⟩ = some (.slice A0_5 l0_5.length c0_5)) ∧ (w'.heap[gb132]? = some (.cells #[.int .i64 a0_0, .int .i64 a0_1, .int .i64 a0_2, .int .i64 a0_3, .slice A0_4 l0_4.length c0_4, .slice A0_5 l0_5.length c0_5] 25 (0, 0))) ∧ (w'.heap[gb133]? = some (.cells #[.int .i64 0, .int .i64 0, .int .i64 0, .int .i64 0, .slice none 0 0, .slice none 0 0] 25 (0, 0))) ∧ (Below w.heap.size w w')) ?_ ?_
        rotate_left
        · intro hJ2_5_8
          refine join_ (σ := Nat) 4 #[true, true, true, true, true, true, true, true, false, true, true, false, false, true, false] (fun s_ => [(14, .int .i64 t134), (17, .int .i64 t135), (3, .pointer (some ⟨s_, 0, none⟩))]) (fun s_ w' => (w'.cell? ⟨gb132, 0, none⟩ = some (.int .i64 a0_0) ∧ w'.cell? ⟨gb132, 1, none⟩ = some (.int .i64 a0_1) ∧ w'.cell? ⟨gb132, 2, none⟩ = some (.int .i64 a0_2) ∧ w'.cell? ⟨gb132, 3, none⟩ = some (.int .i64 a0_3) ∧ w'.cell? ⟨gb132, 4, none⟩ = some (.slice A0_4 l0_4.length c0_4) ∧ w'.cell? ⟨gb132, 5, none⟩ = some (.slice A0_5 l0_5.length c0_5)) ∧ (w'.heap[gb132]? = some (.cells #[.int .i64 a0_0, .int .i64 a0_1, .int .i64 a0_2, .int .i64 a0_3, .slice A0_4 l0_4.length c0_4, .slice A0_5 l0_5.length c0_5] 25 (0, 0))) ∧ (w'.heap[gb133]? = some (.cells #[.int .i64 0, .int .i64 0, .int .i64 0, .int .i64 0, .slice none 0 0, .slice none 0 0] 25 (0, 0))) ∧ (w'.heap[s_]? = some (.cells #[.int .i64 0, .int .i64 0, .int .i64 0, .int .i64 0, .slice none 0 0, .slice none 0 0] 25 (0, 0))) ∧ (w.heap.size ≤ s_) ∧ (w.heap.size ≤ s_) ∧ (gb132 ≠ s_) ∧ (s_ ≠ gb132) ∧ (gb133 ≠ s_) ∧ (s_ ≠ gb133) ∧ (Below w.heap.size w w')) ?_ ?_
          rotate_left
          · intro hJ2_5_13
            refine join_ (σ := Unit) 5 #[true, true, true, true, true, true, true, true, false, true, true, false, false, false, false] (fun s_ => [(14, .int .i64 t134), (17, .int .i64 t135)]) (fun s_ w' => (w'.cell? ⟨gb132, 0, none⟩ = some (.int .i64 a0_0) ∧ w'.cell? ⟨gb132, 1, none⟩ = some (.int .i64 a0_1) ∧ w'.cell? ⟨gb132, 2, none⟩ = some (.int .i64 a0_2) ∧ w'.cell? ⟨gb132, 3, none⟩ = some (.int .i64 a0_3) ∧ w'.cell? ⟨gb132, 4, none⟩ = some (.slice A0_4 l0_4.length c0_4) ∧ w'.cell? ⟨gb132, 5, none⟩ = some (.slice A0_5 l0_5.length c0_5)) ∧ (w'.heap[gb132]? = some (.cells #[.int .i64 a0_0, .int .i64 a0_1, .int .i64 a0_2, .int .i64 a0_3, .slice A0_4 l0_4.length c0_4, .slice A0_5 l0_5.length c0_5] 25 (0, 0))) ∧ (w'.heap[gb133]? = some (.cells #[.int .i64 0, .int .i64 0, .int .i64 0, .int .i64 0, .slice none 0 0, .slice none 0 0] 25 (0, 0))) ∧ (Below w.heap.size w w')) ?_ ?_
            rotate_left
            · intro hJ2_5
              refine join_ (σ := Nat) 5 #[true, true, true, true, true, false, true, true, false, true, true, false, false, true, false] (fun s_ => [(14, .int .i64 t134), (3, .pointer (some ⟨s_, 0, none⟩))]) (fun s_ w' => (w'.cell? ⟨gb132, 0, none⟩ = some (.int .i64 a0_0) ∧ w'.cell? ⟨gb132, 1, none⟩ = some (.int .i64 a0_1) ∧ w'.cell? ⟨gb132, 2, none⟩ = some (.int .i64 a0_2) ∧ w'.cell? ⟨gb132, 3, none⟩ = some (.int .i64 a0_3) ∧ w'.cell? ⟨gb132, 4, none⟩ = some (.slice A0_4 l0_4.length c0_4) ∧ w'.cell? ⟨gb132, 5, none⟩ = some (.slice A0_5 l0_5.length c0_5)) ∧ (w'.heap[gb132]? = some (.cells #[.int .i64 a0_0, .int .i64 a0_1, .int .i64 a0_2, .int .i64 a0_3, .slice A0_4 l0_4.length c0_4, .slice A0_5 l0_5.length c0_5] 25 (0, 0))) ∧ (w'.heap[gb133]? = some (.cells #[.int .i64 0, .int .i64 0, .int .i64 0, .int .i64 0, .slice none 0 0, .slice none 0 0] 25 (0, 0))) ∧ (w'.heap[s_]? = some (.cells #[.int .i64 0, .int .i64 0, .int .i64 0, .int .i64 0, .slice none 0 0, .slice none 0 0] 25 (0, 0))) ∧ (w.heap.size ≤ s_) ∧ (w.heap.size ≤ s_) ∧ (gb132 ≠ s_) ∧ (s_ ≠ gb132) ∧ (gb133 ≠ s_) ∧ (s_ ≠ gb133) ∧ (Below w.heap.size w w')) ?_ ?_
              rotate_left
              · intro hJ2_13
                refine join_ (σ := Unit) 6 #[true, true, true, true, true, false, true, true, false, true, true, false, false, false, false] (fun s_ => [(14, .int .i64 t134)]) (fun s_ w' => (w'.cell? ⟨gb132, 0, none⟩ = some (.int .i64 a0_0) ∧ w'.cell? ⟨gb132, 1, none⟩ = some (.int .i64 a0_1) ∧ w'.cell? ⟨gb132, 2, none⟩ = some (.int .i64 a0_2) ∧ w'.cell? ⟨gb132, 3, none⟩ = some (.int .i64 a0_3) ∧ w'.cell? ⟨gb132, 4, none⟩ = some (.slice A0_4 l0_4.length c0_4) ∧ w'.cell? ⟨gb132, 5, none⟩ = some (.slice A0_5 l0_5.length c0_5)) ∧ (w'.heap[gb132]? = some (.cells #[.int .i64 a0_0, .int .i64 a0_1, .int .i64 a0_2, .int .i64 a0_3, .slice A0_4 l0_4.length c0_4, .slice A0_5 l0_5.length c0_5] 25 (0, 0))) ∧ (w'.heap[gb133]? = some (.cells #[.int .i64 0, .int .i64 0, .int .i64 0, .int .i64 0, .slice none 0 0, .slice none 0 0] 25 (0, 0))) ∧ (Below w.heap.size w w')) ?_ ?_
                rotate_left
                · intro hJ2
                  refine join_ (σ := Nat) 6 #[true, true, false, true, true, false, true, true, false, true, true, false, false, true, false] (fun s_ => [(3, .pointer (some ⟨s_, 0, none⟩))]) (fun s_ w' => (w'.cell? ⟨gb132, 0, none⟩ = some (.int .i64 a0_0) ∧ w'.cell? ⟨gb132, 1, none⟩ = some (.int .i64 a0_1) ∧ w'.cell? ⟨gb132, 2, none⟩ = some (.int .i64 a0_2) ∧ w'.cell? ⟨gb132, 3, none⟩ = some (.int .i64 a0_3) ∧ w'.cell? ⟨gb132, 4, none⟩ = some (.slice A0_4 l0_4.length c0_4) ∧ w'.cell? ⟨gb132, 5, none⟩ = some (.slice A0_5 l0_5.length c0_5)) ∧ (w'.heap[gb132]? = some (.cells #[.int .i64 a0_0, .int .i64 a0_1, .int .i64 a0_2, .int .i64 a0_3, .slice A0_4 l0_4.length c0_4, .slice A0_5 l0_5.length c0_5] 25 (0, 0))) ∧ (w'.heap[gb133]? = some (.cells #[.int .i64 0, .int .i64 0, .int .i64 0, .int .i64 0, .slice none 0 0, .slice none 0 0] 25 (0, 0))) ∧ (w'.heap[s_]? = some (.cells #[.int .i64 0, .int .i64 0, .int .i64 0, .int .i64 0, .slice none 0 0, .slice none 0 0] 25 (0, 0))) ∧ (w.heap.size ≤ s_) ∧ (w.heap.size ≤ s_) ∧ (gb132 ≠ s_) ∧ (s_ ≠ gb132) ∧ (gb133 ≠ s_) ∧ (s_ ≠ gb133) ∧ (Below w.heap.size w w')) ?_ ?_
                  rotate_left
                  · intro hJ13
                    refine two_ (i := 2) (j := 13) (Ni := some 14) (Nj := some 3) #[true, true, true, true, true, false, true, true, false, true, true, false, false, false, false] #[true, true, false, true, true, false, true, true, false, true, true, false, false, true, false] rfl rfl rfl rfl (two_of HT_.out (by kernel_rfl)) (by decide) (by decide) (fun K hK => ?_) (fun K hK => ?_)
                    · skip
                      refine goes_ Try.func27 (by kernel_rfl) rfl #[.int .i64 a0_0, .int .i64 100] (by rfl) rfl rfl (by (try simp only [List.map_toArray, List.map_cons, List.map_nil]); first | done | rfl | (simp only [List.length_drop, List.length_take]; rfl)) ?_
                      with_reducible refine (fill_or.calls a0_0 100 t134 _ A2.out).mono ?_
                      rintro e w' ⟨rfl, ⟨nd, rfl⟩⟩
                      refine ⟨_, rfl, ?_⟩
                      refine hK.out _ _ ⟨(blk_cell BK132.out 0).trans rfl, (blk_cell BK132.out 1).trans rfl, (blk_cell BK132.out 2).trans rfl, (blk_cell BK132.out 3).trans rfl, (blk_cell BK132.out 4).trans rfl, (blk_cell BK132.out 5).trans rfl⟩ (fun hHeld => ?_)
                      clear hK K
                      refine norm_ (a' := ?_) ?_ ?_
                      rotate_left
                      · show Act.put _ (some 14) _ = _
                        simp only [Act.put, List.setIfInBounds_toArray, List.set_cons_zero, List.set_cons_succ, i64_w, i32_w]
                        rfl
                      exact norm_ (by first | (simp only [putAll, Act.put, List.setIfInBounds_toArray, List.set_cons_zero, List.set_cons_succ]; done) | (simp only [putAll, Act.put, List.setIfInBounds_toArray, List.set_cons_zero, List.set_cons_succ]; rfl)) (hJ2 () _ ⟨hHeld, (by (with_reducible repeat (first | refine blk_drewN ?_ _ | refine blk_drew ?_ | refine blk_alloc ?_ _)); exact BK132.out), (by (with_reducible repeat (first | refine blk_drewN ?_ _ | refine blk_drew ?_ | refine blk_alloc ?_ _)); exact BK133.out), (by repeat (first | (with_reducible first | exact HB.out | apply below_alloc | apply pw_below_drewN | apply below_drew1 | refine below_set ?_ GE132.out | refine below_set ?_ GE133.out) | exact HB.out))⟩)
                    · skip
                      refine box_step ?hg (N := 3) ?hd (cs := #[.int .i64 0, .int .i64 0, .int .i64 0, .int .i64 0, .slice none 0 0, .slice none 0 0]) (t := 25) ?hr ?_; (case hd => rfl); (case hg => rfl); (case hr => first | (go_simp; done) | (go_simp; rfl))
                      intro gb138 hg w9 hbox hb
                      have n0_ := Aside0.mk (blk_below (g := gb132) (o := .cells #[.int .i64 a0_0, .int .i64 a0_1, .int .i64 a0_2, .int .i64 a0_3, .slice A0_4 l0_4.length c0_4, .slice A0_5 l0_5.length c0_5] 25 (0, 0)) (by (with_reducible repeat (first | refine blk_drewN ?_ _ | refine blk_drew ?_ | refine blk_alloc ?_ _)); exact BK132.out) hb)
                      have n1_ := Aside0.mk (blk_below (g := gb133) (o := .cells #[.int .i64 0, .int .i64 0, .int .i64 0, .int .i64 0, .slice none 0 0, .slice none 0 0] 25 (0, 0)) (by (with_reducible repeat (first | refine blk_drewN ?_ _ | refine blk_drew ?_ | refine blk_alloc ?_ _)); exact BK133.out) hb)
                      have n2_ := Aside0.mk (below_step (by repeat (first | (with_reducible first | exact HB.out | apply below_alloc | apply pw_below_drewN | apply below_drew1 | refine below_set ?_ GE132.out | refine below_set ?_ GE133.out) | exact HB.out)) hb)
                      have n3_ := Aside0.mk (hbox)
                      have n4_ := Aside0.mk ((by rw [hg]; exact (below_size (by repeat (first | (with_reducible first | exact HB.out | apply below_alloc | apply pw_below_drewN | apply below_drew1 | refine below_set ?_ GE132.out | refine below_set ?_ GE133.out) | exact HB.out))) : w.heap.size ≤ gb138))
                      have n5_ := Aside0.mk ((by rw [hg]; exact (below_size (by repeat (first | (with_reducible first | exact HB.out | apply below_alloc | apply pw_below_drewN | apply below_drew1 | refine below_set ?_ GE132.out | refine below_set ?_ GE133.out) | exact HB.out))) : w.heap.size ≤ gb138))
                      have n6_ := Aside0.mk ((by rw [hg]; exact Nat.ne_of_lt (blk_lt (g := gb132) (o := .cells #[.int .i64 a0_0, .int .i64 a0_1, .int .i64 a0_2, .int .i64 a0_3, .slice A0_4 l0_4.length c0_4, .slice A0_5 l0_5.length c0_5] 25 (0, 0)) (by (with_reducible repeat (first | refine blk_drewN ?_ _ | refine blk_drew ?_ | refine blk_alloc ?_ _)); exact BK132.out)) : gb132 ≠ gb138))
                      have n7_ := Aside0.mk ((by rw [hg]; exact Nat.ne_of_gt (blk_lt (g := gb132) (o := .cells #[.int .i64 a0_0, .int .i64 a0_1, .int .i64 a0_2, .int .i64 a0_3, .slice A0_4 l0_4.length c0_4, .slice A0_5 l0_5.length c0_5] 25 (0, 0)) (by (with_reducible repeat (first | refine blk_drewN ?_ _ | refine blk_drew ?_ | refine blk_alloc ?_ _)); exact BK132.out)) : gb138 ≠ gb132))
                      have n8_ := Aside0.mk ((by rw [hg]; exact Nat.ne_of_lt (blk_lt (g := gb133) (o := .cells #[.int .i64 0, .int .i64 0, .int .i64 0, .int .i64 0, .slice none 0 0, .slice none 0 0] 25 (0, 0)) (by (with_reducible repeat (first | refine blk_drewN ?_ _ | refine blk_drew ?_ | refine blk_alloc ?_ _)); exact BK133.out)) : gb133 ≠ gb138))
                      have n9_ := Aside0.mk ((by rw [hg]; exact Nat.ne_of_gt (blk_lt (g := gb133) (o := .cells #[.int .i64 0, .int .i64 0, .int .i64 0, .int .i64 0, .slice none 0 0, .slice none 0 0] 25 (0, 0)) (by (with_reducible repeat (first | refine blk_drewN ?_ _ | refine blk_drew ?_ | refine blk_alloc ?_ _)); exact BK133.out)) : gb138 ≠ gb133))
                      clear BK132
                      clear BK133
                      clear HB
                      have BK132 := n0_
                      have BK133 := n1_
                      have HB := n2_
                      have BK138 := n3_
                      have GW138 := n4_
                      have GE138 := n5_
                      have NB132_138 := n6_
                      have NB138_132 := n7_
                      have NB133_138 := n8_
                      have NB138_133 := n9_
                      clear n0_ n1_ n2_ n3_ n4_ n5_ n6_ n7_ n8_ n9_
                      clear hb hbox hg
                      refine hK.out _ _ ⟨(blk_cell BK132.out 0).trans rfl, (blk_cell BK132.out 1).trans rfl, (blk_cell BK132.out 2).trans rfl, (blk_cell BK132.out 3).trans rfl, (blk_cell BK132.out 4).trans rfl, (blk_cell BK132.out 5).trans rfl⟩ (fun hHeld => ?_)
                      clear hK K
                      refine norm_ (a' := ?_) ?_ ?_
                      rotate_left
                      · show Act.put _ (some 3) _ = _
                        simp only [Act.put, List.setIfInBounds_toArray, List.set_cons_zero, List.set_cons_succ, i64_w, i32_w]
                        rfl
                      exact norm_ (by first | (simp only [putAll, Act.put, List.setIfInBounds_toArray, List.set_cons_zero, List.set_cons_succ]; done) | (simp only [putAll, Act.put, List.setIfInBounds_toArray, List.set_cons_zero, List.set_cons_succ]; rfl)) (hJ13 (gb138) _ ⟨hHeld, (by (with_reducible repeat (first | refine blk_drewN ?_ _ | refine blk_drew ?_ | refine blk_alloc ?_ _)); exact BK132.out), (by (with_reducible repeat (first | refine blk_drewN ?_ _ | refine blk_drew ?_ | refine blk_alloc ?_ _)); exact BK133.out), (by (with_reducible repeat (first | refine blk_drewN ?_ _ | refine blk_drew ?_ | refine blk_alloc ?_ _)); exact BK138.out), GW138.out, GE138.out, NB132_138.out, NB138_132.out, NB133_138.out, NB138_133.out, (by repeat (first | (with_reducible first | exact HB.out | apply below_alloc | apply pw_below_drewN | apply below_drew1 | refine below_set ?_ GE132.out | refine below_set ?_ GE133.out | refine below_set ?_ GE138.out) | exact HB.out))⟩)
                  · skip
                    rintro gb138 w10 ⟨hS_, h0_, h1_, h2_, h3_, h4_, h5_, h6_, h7_, h8_, h9_⟩
                    have n0_ : Aside0 (w10.heap[gb132]? = some (.cells #[.int .i64 a0_0, .int .i64 a0_1, .int .i64 a0_2, .int .i64 a0_3, .slice A0_4 l0_4.length c0_4, .slice A0_5 l0_5.length c0_5] 25 (0, 0))) := ⟨h0_⟩
                    have n1_ : Aside0 (w10.heap[gb133]? = some (.cells #[.int .i64 0, .int .i64 0, .int .i64 0, .int .i64 0, .slice none 0 0, .slice none 0 0] 25 (0, 0))) := ⟨h1_⟩
                    have n2_ : Aside0 (w10.heap[gb138]? = some (.cells #[.int .i64 0, .int .i64 0, .int .i64 0, .int .i64 0, .slice none 0 0, .slice none 0 0] 25 (0, 0))) := ⟨h2_⟩
                    have n3_ : Aside0 (w.heap.size ≤ gb138) := ⟨h3_⟩
                    have n4_ : Aside0 (w.heap.size ≤ gb138) := ⟨h4_⟩
                    have n5_ : Aside0 (gb132 ≠ gb138) := ⟨h5_⟩
                    have n6_ : Aside0 (gb138 ≠ gb132) := ⟨h6_⟩
                    have n7_ : Aside0 (gb133 ≠ gb138) := ⟨h7_⟩
                    have n8_ : Aside0 (gb138 ≠ gb133) := ⟨h8_⟩
                    have n9_ : Aside0 (Below w.heap.size w w10) := ⟨h9_⟩
                    clear BK132
                    clear BK133
                    clear HB
                    clear h0_ h1_ h2_ h3_ h4_ h5_ h6_ h7_ h8_ h9_
                    have BK132 := n0_
                    have BK133 := n1_
                    have BK138 := n2_
                    have GW138 := n3_
                    have GE138 := n4_
                    have NB132_138 := n5_
                    have NB138_132 := n6_
                    have NB133_138 := n7_
                    have NB138_133 := n8_
                    have HB := n9_
                    clear n0_ n1_ n2_ n3_ n4_ n5_ n6_ n7_ n8_ n9_
                    have hHeld : w10.cell? ⟨gb132, 0, none⟩ = some (.int .i64 a0_0) ∧ w10.cell? ⟨gb132, 1, none⟩ = some (.int .i64 a0_1) ∧ w10.cell? ⟨gb132, 2, none⟩ = some (.int .i64 a0_2) ∧ w10.cell? ⟨gb132, 3, none⟩ = some (.int .i64 a0_3) ∧ w10.cell? ⟨gb132, 4, none⟩ = some (.slice A0_4 l0_4.length c0_4) ∧ w10.cell? ⟨gb132, 5, none⟩ = some (.slice A0_5 l0_5.length c0_5) := hS_
                    refine norm_ (a' := ?_) ?_ ?_
                    rotate_left
                    · simp only [putAll, Act.put, List.setIfInBounds_toArray, List.set_cons_zero, List.set_cons_succ]
                      rfl
                    refine one_ (i := 2) (N := some 14) #[true, true, true, true, true, false, true, true, false, true, true, false, false, true, false] rfl rfl (one_of HT_.out (by kernel_rfl)) (by decide) (fun K hK => ?_)
                    refine goes_ Try.func27 (by kernel_rfl) rfl #[.int .i64 a0_0, .int .i64 100] (by rfl) rfl rfl (by (try simp only [List.map_toArray, List.map_cons, List.map_nil]); first | done | rfl | (simp only [List.length_drop, List.length_take]; rfl)) ?_
                    with_reducible refine (fill_or.calls a0_0 100 t134 _ A2.out).mono ?_
                    rintro e w' ⟨rfl, ⟨nd, rfl⟩⟩
                    refine ⟨_, rfl, ?_⟩
                    refine hK.out _ _ ⟨(blk_cell BK132.out 0).trans rfl, (blk_cell BK132.out 1).trans rfl, (blk_cell BK132.out 2).trans rfl, (blk_cell BK132.out 3).trans rfl, (blk_cell BK132.out 4).trans rfl, (blk_cell BK132.out 5).trans rfl⟩ (fun hHeld => ?_)
                    clear hK K
                    refine norm_ (a' := ?_) ?_ ?_
                    rotate_left
                    · show Act.put _ (some 14) _ = _
                      simp only [Act.put, List.setIfInBounds_toArray, List.set_cons_zero, List.set_cons_succ, i64_w, i32_w]
                      rfl
                    exact norm_ (by first | (simp only [putAll, Act.put, List.setIfInBounds_toArray, List.set_cons_zero, List.set_cons_succ]; done) | (simp only [putAll, Act.put, List.setIfInBounds_toArray, List.set_cons_zero, List.set_cons_succ]; rfl)) (hJ2_13 (gb138) _ ⟨hHeld, (by (with_reducible repeat (first | refine blk_drewN ?_ _ | refine blk_drew ?_ | refine blk_alloc ?_ _)); exact BK132.out), (by (with_reducible repeat (first | refine blk_drewN ?_ _ | refine blk_drew ?_ | refine blk_alloc ?_ _)); exact BK133.out), (by (with_reducible repeat (first | refine blk_drewN ?_ _ | refine blk_drew ?_ | refine blk_alloc ?_ _)); exact BK138.out), GW138.out, GE138.out, NB132_138.out, NB138_132.out, NB133_138.out, NB138_133.out, (by repeat (first | (with_reducible first | exact HB.out | apply below_alloc | apply pw_below_drewN | apply below_drew1 | refine below_set ?_ GE132.out | refine below_set ?_ GE133.out | refine below_set ?_ GE138.out) | exact HB.out))⟩)
                · skip
                  rintro _ w9 ⟨hS_, h0_, h1_, h2_⟩
                  have n0_ : Aside0 (w9.heap[gb132]? = some (.cells #[.int .i64 a0_0, .int .i64 a0_1, .int .i64 a0_2, .int .i64 a0_3, .slice A0_4 l0_4.length c0_4, .slice A0_5 l0_5.length c0_5] 25 (0, 0))) := ⟨h0_⟩
                  have n1_ : Aside0 (w9.heap[gb133]? = some (.cells #[.int .i64 0, .int .i64 0, .int .i64 0, .int .i64 0, .slice none 0 0, .slice none 0 0] 25 (0, 0))) := ⟨h1_⟩
                  have n2_ : Aside0 (Below w.heap.size w w9) := ⟨h2_⟩
                  clear BK132
                  clear BK133
                  clear HB
                  clear h0_ h1_ h2_
                  have BK132 := n0_
                  have BK133 := n1_
                  have HB := n2_
                  clear n0_ n1_ n2_
                  have hHeld : w9.cell? ⟨gb132, 0, none⟩ = some (.int .i64 a0_0) ∧ w9.cell? ⟨gb132, 1, none⟩ = some (.int .i64 a0_1) ∧ w9.cell? ⟨gb132, 2, none⟩ = some (.int .i64 a0_2) ∧ w9.cell? ⟨gb132, 3, none⟩ = some (.int .i64 a0_3) ∧ w9.cell? ⟨gb132, 4, none⟩ = some (.slice A0_4 l0_4.length c0_4) ∧ w9.cell? ⟨gb132, 5, none⟩ = some (.slice A0_5 l0_5.length c0_5) := hS_
                  refine norm_ (a' := ?_) ?_ ?_
                  rotate_left
                  · simp only [putAll, Act.put, List.setIfInBounds_toArray, List.set_cons_zero, List.set_cons_succ]
                    rfl
                  refine two_ (i := 5) (j := 13) (Ni := some 17) (Nj := some 3) #[true, true, true, true, true, true, true, true, false, true, true, false, false, false, false] #[true, true, true, true, true, false, true, true, false, true, true, false, false, true, false] rfl rfl rfl rfl (two_of HT_.out (by kernel_rfl)) (by decide) (by decide) (fun K hK => ?_) (fun K hK => ?_)
                  · skip
                    refine goes_ Try.func27 (by kernel_rfl) rfl #[.int .i64 a0_1, .int .i64 10] (by rfl) rfl rfl (by (try simp only [List.map_toArray, List.map_cons, List.map_nil]); first | done | rfl | (simp only [List.length_drop, List.length_take]; rfl)) ?_
                    with_reducible refine (fill_or.calls a0_1 10 t135 _ A3.out).mono ?_
                    rintro e w' ⟨rfl, ⟨nd, rfl⟩⟩
                    refine ⟨_, rfl, ?_⟩
                    refine hK.out _ _ ⟨(blk_cell BK132.out 0).trans rfl, (blk_cell BK132.out 1).trans rfl, (blk_cell BK132.out 2).trans rfl, (blk_cell BK132.out 3).trans rfl, (blk_cell BK132.out 4).trans rfl, (blk_cell BK132.out 5).trans rfl⟩ (fun hHeld => ?_)
                    clear hK K
                    refine norm_ (a' := ?_) ?_ ?_
                    rotate_left
                    · show Act.put _ (some 17) _ = _
                      simp only [Act.put, List.setIfInBounds_toArray, List.set_cons_zero, List.set_cons_succ, i64_w, i32_w]
                      rfl
                    exact norm_ (by first | (simp only [putAll, Act.put, List.setIfInBounds_toArray, List.set_cons_zero, List.set_cons_succ]; done) | (simp only [putAll, Act.put, List.setIfInBounds_toArray, List.set_cons_zero, List.set_cons_succ]; rfl)) (hJ2_5 () _ ⟨hHeld, (by (with_reducible repeat (first | refine blk_drewN ?_ _ | refine blk_drew ?_ | refine blk_alloc ?_ _)); exact BK132.out), (by (with_reducible repeat (first | refine blk_drewN ?_ _ | refine blk_drew ?_ | refine blk_alloc ?_ _)); exact BK133.out), (by repeat (first | (with_reducible first | exact HB.out | apply below_alloc | apply pw_below_drewN | apply below_drew1 | refine below_set ?_ GE132.out | refine below_set ?_ GE133.out) | exact HB.out))⟩)
                  · skip
                    refine box_step ?hg (N := 3) ?hd (cs := #[.int .i64 0, .int .i64 0, .int .i64 0, .int .i64 0, .slice none 0 0, .slice none 0 0]) (t := 25) ?hr ?_; (case hd => rfl); (case hg => rfl); (case hr => first | (go_simp; done) | (go_simp; rfl))
                    intro gb138 hg w10 hbox hb
                    have n0_ := Aside0.mk (blk_below (g := gb132) (o := .cells #[.int .i64 a0_0, .int .i64 a0_1, .int .i64 a0_2, .int .i64 a0_3, .slice A0_4 l0_4.length c0_4, .slice A0_5 l0_5.length c0_5] 25 (0, 0)) (by (with_reducible repeat (first | refine blk_drewN ?_ _ | refine blk_drew ?_ | refine blk_alloc ?_ _)); exact BK132.out) hb)
                    have n1_ := Aside0.mk (blk_below (g := gb133) (o := .cells #[.int .i64 0, .int .i64 0, .int .i64 0, .int .i64 0, .slice none 0 0, .slice none 0 0] 25 (0, 0)) (by (with_reducible repeat (first | refine blk_drewN ?_ _ | refine blk_drew ?_ | refine blk_alloc ?_ _)); exact BK133.out) hb)
                    have n2_ := Aside0.mk (below_step (by repeat (first | (with_reducible first | exact HB.out | apply below_alloc | apply pw_below_drewN | apply below_drew1 | refine below_set ?_ GE132.out | refine below_set ?_ GE133.out) | exact HB.out)) hb)
                    have n3_ := Aside0.mk (hbox)
                    have n4_ := Aside0.mk ((by rw [hg]; exact (below_size (by repeat (first | (with_reducible first | exact HB.out | apply below_alloc | apply pw_below_drewN | apply below_drew1 | refine below_set ?_ GE132.out | refine below_set ?_ GE133.out) | exact HB.out))) : w.heap.size ≤ gb138))
                    have n5_ := Aside0.mk ((by rw [hg]; exact (below_size (by repeat (first | (with_reducible first | exact HB.out | apply below_alloc | apply pw_below_drewN | apply below_drew1 | refine below_set ?_ GE132.out | refine below_set ?_ GE133.out) | exact HB.out))) : w.heap.size ≤ gb138))
                    have n6_ := Aside0.mk ((by rw [hg]; exact Nat.ne_of_lt (blk_lt (g := gb132) (o := .cells #[.int .i64 a0_0, .int .i64 a0_1, .int .i64 a0_2, .int .i64 a0_3, .slice A0_4 l0_4.length c0_4, .slice A0_5 l0_5.length c0_5] 25 (0, 0)) (by (with_reducible repeat (first | refine blk_drewN ?_ _ | refine blk_drew ?_ | refine blk_alloc ?_ _)); exact BK132.out)) : gb132 ≠ gb138))
                    have n7_ := Aside0.mk ((by rw [hg]; exact Nat.ne_of_gt (blk_lt (g := gb132) (o := .cells #[.int .i64 a0_0, .int .i64 a0_1, .int .i64 a0_2, .int .i64 a0_3, .slice A0_4 l0_4.length c0_4, .slice A0_5 l0_5.length c0_5] 25 (0, 0)) (by (with_reducible repeat (first | refine blk_drewN ?_ _ | refine blk_drew ?_ | refine blk_alloc ?_ _)); exact BK132.out)) : gb138 ≠ gb132))
                    have n8_ := Aside0.mk ((by rw [hg]; exact Nat.ne_of_lt (blk_lt (g := gb133) (o := .cells #[.int .i64 0, .int .i64 0, .int .i64 0, .int .i64 0, .slice none 0 0, .slice none 0 0] 25 (0, 0)) (by (with_reducible repeat (first | refine blk_drewN ?_ _ | refine blk_drew ?_ | refine blk_alloc ?_ _)); exact BK133.out)) : gb133 ≠ gb138))
                    have n9_ := Aside0.mk ((by rw [hg]; exact Nat.ne_of_gt (blk_lt (g := gb133) (o := .cells #[.int .i64 0, .int .i64 0, .int .i64 0, .int .i64 0, .slice none 0 0, .slice none 0 0] 25 (0, 0)) (by (with_reducible repeat (first | refine blk_drewN ?_ _ | refine blk_drew ?_ | refine blk_alloc ?_ _)); exact BK133.out)) : gb138 ≠ gb133))
                    clear BK132
                    clear BK133
                    clear HB
                    have BK132 := n0_
                    have BK133 := n1_
                    have HB := n2_
                    have BK138 := n3_
                    have GW138 := n4_
                    have GE138 := n5_
                    have NB132_138 := n6_
                    have NB138_132 := n7_
                    have NB133_138 := n8_
                    have NB138_133 := n9_
                    clear n0_ n1_ n2_ n3_ n4_ n5_ n6_ n7_ n8_ n9_
                    clear hb hbox hg
                    refine hK.out _ _ ⟨(blk_cell BK132.out 0).trans rfl, (blk_cell BK132.out 1).trans rfl, (blk_cell BK132.out 2).trans rfl, (blk_cell BK132.out 3).trans rfl, (blk_cell BK132.out 4).trans rfl, (blk_cell BK132.out 5).trans rfl⟩ (fun hHeld => ?_)
                    clear hK K
                    refine norm_ (a' := ?_) ?_ ?_
                    rotate_left
                    · show Act.put _ (some 3) _ = _
                      simp only [Act.put, List.setIfInBounds_toArray, List.set_cons_zero, List.set_cons_succ, i64_w, i32_w]
                      rfl
                    exact norm_ (by first | (simp only [putAll, Act.put, List.setIfInBounds_toArray, List.set_cons_zero, List.set_cons_succ]; done) | (simp only [putAll, Act.put, List.setIfInBounds_toArray, List.set_cons_zero, List.set_cons_succ]; rfl)) (hJ2_13 (gb138) _ ⟨hHeld, (by (with_reducible repeat (first | refine blk_drewN ?_ _ | refine blk_drew ?_ | refine blk_alloc ?_ _)); exact BK132.out), (by (with_reducible repeat (first | refine blk_drewN ?_ _ | refine blk_drew ?_ | refine blk_alloc ?_ _)); exact BK133.out), (by (with_reducible repeat (first | refine blk_drewN ?_ _ | refine blk_drew ?_ | refine blk_alloc ?_ _)); exact BK138.out), GW138.out, GE138.out, NB132_138.out, NB138_132.out, NB133_138.out, NB138_133.out, (by repeat (first | (with_reducible first | exact HB.out | apply below_alloc | apply pw_below_drewN | apply below_drew1 | refine below_set ?_ GE132.out | refine below_set ?_ GE133.out | refine below_set ?_ GE138.out) | exact HB.out))⟩)
              · skip
                rintro gb138 w10 ⟨hS_, h0_, h1_, h2_, h3_, h4_, h5_, h6_, h7_, h8_, h9_⟩
                have n0_ : Aside0 (w10.heap[gb132]? = some (.cells #[.int .i64 a0_0, .int .i64 a0_1, .int .i64 a0_2, .int .i64 a0_3, .slice A0_4 l0_4.length c0_4, .slice A0_5 l0_5.length c0_5] 25 (0, 0))) := ⟨h0_⟩
                have n1_ : Aside0 (w10.heap[gb133]? = some (.cells #[.int .i64 0, .int .i64 0, .int .i64 0, .int .i64 0, .slice none 0 0, .slice none 0 0] 25 (0, 0))) := ⟨h1_⟩
                have n2_ : Aside0 (w10.heap[gb138]? = some (.cells #[.int .i64 0, .int .i64 0, .int .i64 0, .int .i64 0, .slice none 0 0, .slice none 0 0] 25 (0, 0))) := ⟨h2_⟩
                have n3_ : Aside0 (w.heap.size ≤ gb138) := ⟨h3_⟩
                have n4_ : Aside0 (w.heap.size ≤ gb138) := ⟨h4_⟩
                have n5_ : Aside0 (gb132 ≠ gb138) := ⟨h5_⟩
                have n6_ : Aside0 (gb138 ≠ gb132) := ⟨h6_⟩
                have n7_ : Aside0 (gb133 ≠ gb138) := ⟨h7_⟩
                have n8_ : Aside0 (gb138 ≠ gb133) := ⟨h8_⟩
                have n9_ : Aside0 (Below w.heap.size w w10) := ⟨h9_⟩
                clear BK132
                clear BK133
                clear HB
                clear h0_ h1_ h2_ h3_ h4_ h5_ h6_ h7_ h8_ h9_
                have BK132 := n0_
                have BK133 := n1_
                have BK138 := n2_
                have GW138 := n3_
                have GE138 := n4_
                have NB132_138 := n5_
                have NB138_132 := n6_
                have NB133_138 := n7_
                have NB138_133 := n8_
                have HB := n9_
                clear n0_ n1_ n2_ n3_ n4_ n5_ n6_ n7_ n8_ n9_
                have hHeld : w10.cell? ⟨gb132, 0, none⟩ = some (.int .i64 a0_0) ∧ w10.cell? ⟨gb132, 1, none⟩ = some (.int .i64 a0_1) ∧ w10.cell? ⟨gb132, 2, none⟩ = some (.int .i64 a0_2) ∧ w10.cell? ⟨gb132, 3, none⟩ = some (.int .i64 a0_3) ∧ w10.cell? ⟨gb132, 4, none⟩ = some (.slice A0_4 l0_4.length c0_4) ∧ w10.cell? ⟨gb132, 5, none⟩ = some (.slice A0_5 l0_5.length c0_5) := hS_
                refine norm_ (a' := ?_) ?_ ?_
                rotate_left
                · simp only [putAll, Act.put, List.setIfInBounds_toArray, List.set_cons_zero, List.set_cons_succ]
                  rfl
                refine one_ (i := 5) (N := some 17) #[true, true, true, true, true, true, true, true, false, true, true, false, false, true, false] rfl rfl (one_of HT_.out (by kernel_rfl)) (by decide) (fun K hK => ?_)
                refine goes_ Try.func27 (by kernel_rfl) rfl #[.int .i64 a0_1, .int .i64 10] (by rfl) rfl rfl (by (try simp only [List.map_toArray, List.map_cons, List.map_nil]); first | done | rfl | (simp only [List.length_drop, List.length_take]; rfl)) ?_
                with_reducible refine (fill_or.calls a0_1 10 t135 _ A3.out).mono ?_
                rintro e w' ⟨rfl, ⟨nd, rfl⟩⟩
                refine ⟨_, rfl, ?_⟩
                refine hK.out _ _ ⟨(blk_cell BK132.out 0).trans rfl, (blk_cell BK132.out 1).trans rfl, (blk_cell BK132.out 2).trans rfl, (blk_cell BK132.out 3).trans rfl, (blk_cell BK132.out 4).trans rfl, (blk_cell BK132.out 5).trans rfl⟩ (fun hHeld => ?_)
                clear hK K
                refine norm_ (a' := ?_) ?_ ?_
                rotate_left
                · show Act.put _ (some 17) _ = _
                  simp only [Act.put, List.setIfInBounds_toArray, List.set_cons_zero, List.set_cons_succ, i64_w, i32_w]
                  rfl
                exact norm_ (by first | (simp only [putAll, Act.put, List.setIfInBounds_toArray, List.set_cons_zero, List.set_cons_succ]; done) | (simp only [putAll, Act.put, List.setIfInBounds_toArray, List.set_cons_zero, List.set_cons_succ]; rfl)) (hJ2_5_13 (gb138) _ ⟨hHeld, (by (with_reducible repeat (first | refine blk_drewN ?_ _ | refine blk_drew ?_ | refine blk_alloc ?_ _)); exact BK132.out), (by (with_reducible repeat (first | refine blk_drewN ?_ _ | refine blk_drew ?_ | refine blk_alloc ?_ _)); exact BK133.out), (by (with_reducible repeat (first | refine blk_drewN ?_ _ | refine blk_drew ?_ | refine blk_alloc ?_ _)); exact BK138.out), GW138.out, GE138.out, NB132_138.out, NB138_132.out, NB133_138.out, NB138_133.out, (by repeat (first | (with_reducible first | exact HB.out | apply below_alloc | apply pw_below_drewN | apply below_drew1 | refine below_set ?_ GE132.out | refine below_set ?_ GE133.out | refine below_set ?_ GE138.out) | exact HB.out))⟩)
            · skip
              rintro _ w9 ⟨hS_, h0_, h1_, h2_⟩
              have n0_ : Aside0 (w9.heap[gb132]? = some (.cells #[.int .i64 a0_0, .int .i64 a0_1, .int .i64 a0_2, .int .i64 a0_3, .slice A0_4 l0_4.length c0_4, .slice A0_5 l0_5.length c0_5] 25 (0, 0))) := ⟨h0_⟩
              have n1_ : Aside0 (w9.heap[gb133]? = some (.cells #[.int .i64 0, .int .i64 0, .int .i64 0, .int .i64 0, .slice none 0 0, .slice none 0 0] 25 (0, 0))) := ⟨h1_⟩
              have n2_ : Aside0 (Below w.heap.size w w9) := ⟨h2_⟩
              clear BK132
              clear BK133
              clear HB
              clear h0_ h1_ h2_
              have BK132 := n0_
              have BK133 := n1_
              have HB := n2_
              clear n0_ n1_ n2_
              have hHeld : w9.cell? ⟨gb132, 0, none⟩ = some (.int .i64 a0_0) ∧ w9.cell? ⟨gb132, 1, none⟩ = some (.int .i64 a0_1) ∧ w9.cell? ⟨gb132, 2, none⟩ = some (.int .i64 a0_2) ∧ w9.cell? ⟨gb132, 3, none⟩ = some (.int .i64 a0_3) ∧ w9.cell? ⟨gb132, 4, none⟩ = some (.slice A0_4 l0_4.length c0_4) ∧ w9.cell? ⟨gb132, 5, none⟩ = some (.slice A0_5 l0_5.length c0_5) := hS_
              refine norm_ (a' := ?_) ?_ ?_
              rotate_left
              · simp only [putAll, Act.put, List.setIfInBounds_toArray, List.set_cons_zero, List.set_cons_succ]
                rfl
              refine two_ (i := 8) (j := 13) (Ni := some 20) (Nj := some 3) #[true, true, true, true, true, true, true, true, true, true, true, false, false, false, false] #[true, true, true, true, true, true, true, true, false, true, true, false, false, true, false] rfl rfl rfl rfl (two_of HT_.out (by kernel_rfl)) (by decide) (by decide) (fun K hK => ?_) (fun K hK => ?_)
              · skip
                refine goes_ Try.func27 (by kernel_rfl) rfl #[.int .i64 a0_2, .int .i64 100] (by rfl) rfl rfl (by (try simp only [List.map_toArray, List.map_cons, List.map_nil]); first | done | rfl | (simp only [List.length_drop, List.length_take]; rfl)) ?_
                with_reducible refine (fill_or.calls a0_2 100 t136 _ A4.out).mono ?_
                rintro e w' ⟨rfl, ⟨nd, rfl⟩⟩
                refine ⟨_, rfl, ?_⟩
                refine hK.out _ _ ⟨(blk_cell BK132.out 0).trans rfl, (blk_cell BK132.out 1).trans rfl, (blk_cell BK132.out 2).trans rfl, (blk_cell BK132.out 3).trans rfl, (blk_cell BK132.out 4).trans rfl, (blk_cell BK132.out 5).trans rfl⟩ (fun hHeld => ?_)
                clear hK K
                refine norm_ (a' := ?_) ?_ ?_
                rotate_left
                · show Act.put _ (some 20) _ = _
                  simp only [Act.put, List.setIfInBounds_toArray, List.set_cons_zero, List.set_cons_succ, i64_w, i32_w]
                  rfl
                exact norm_ (by first | (simp only [putAll, Act.put, List.setIfInBounds_toArray, List.set_cons_zero, List.set_cons_succ]; done) | (simp only [putAll, Act.put, List.setIfInBounds_toArray, List.set_cons_zero, List.set_cons_succ]; rfl)) (hJ2_5_8 () _ ⟨hHeld, (by (with_reducible repeat (first | refine blk_drewN ?_ _ | refine blk_drew ?_ | refine blk_alloc ?_ _)); exact BK132.out), (by (with_reducible repeat (first | refine blk_drewN ?_ _ | refine blk_drew ?_ | refine blk_alloc ?_ _)); exact BK133.out), (by repeat (first | (with_reducible first | exact HB.out | apply below_alloc | apply pw_below_drewN | apply below_drew1 | refine below_set ?_ GE132.out | refine below_set ?_ GE133.out) | exact HB.out))⟩)
              · skip
                refine box_step ?hg (N := 3) ?hd (cs := #[.int .i64 0, .int .i64 0, .int .i64 0, .int .i64 0, .slice none 0 0, .slice none 0 0]) (t := 25) ?hr ?_; (case hd => rfl); (case hg => rfl); (case hr => first | (go_simp; done) | (go_simp; rfl))
                intro gb138 hg w10 hbox hb
                have n0_ := Aside0.mk (blk_below (g := gb132) (o := .cells #[.int .i64 a0_0, .int .i64 a0_1, .int .i64 a0_2, .int .i64 a0_3, .slice A0_4 l0_4.length c0_4, .slice A0_5 l0_5.length c0_5] 25 (0, 0)) (by (with_reducible repeat (first | refine blk_drewN ?_ _ | refine blk_drew ?_ | refine blk_alloc ?_ _)); exact BK132.out) hb)
                have n1_ := Aside0.mk (blk_below (g := gb133) (o := .cells #[.int .i64 0, .int .i64 0, .int .i64 0, .int .i64 0, .slice none 0 0, .slice none 0 0] 25 (0, 0)) (by (with_reducible repeat (first | refine blk_drewN ?_ _ | refine blk_drew ?_ | refine blk_alloc ?_ _)); exact BK133.out) hb)
                have n2_ := Aside0.mk (below_step (by repeat (first | (with_reducible first | exact HB.out | apply below_alloc | apply pw_below_drewN | apply below_drew1 | refine below_set ?_ GE132.out | refine below_set ?_ GE133.out) | exact HB.out)) hb)
                have n3_ := Aside0.mk (hbox)
                have n4_ := Aside0.mk ((by rw [hg]; exact (below_size (by repeat (first | (with_reducible first | exact HB.out | apply below_alloc | apply pw_below_drewN | apply below_drew1 | refine below_set ?_ GE132.out | refine below_set ?_ GE133.out) | exact HB.out))) : w.heap.size ≤ gb138))
                have n5_ := Aside0.mk ((by rw [hg]; exact (below_size (by repeat (first | (with_reducible first | exact HB.out | apply below_alloc | apply pw_below_drewN | apply below_drew1 | refine below_set ?_ GE132.out | refine below_set ?_ GE133.out) | exact HB.out))) : w.heap.size ≤ gb138))
                have n6_ := Aside0.mk ((by rw [hg]; exact Nat.ne_of_lt (blk_lt (g := gb132) (o := .cells #[.int .i64 a0_0, .int .i64 a0_1, .int .i64 a0_2, .int .i64 a0_3, .slice A0_4 l0_4.length c0_4, .slice A0_5 l0_5.length c0_5] 25 (0, 0)) (by (with_reducible repeat (first | refine blk_drewN ?_ _ | refine blk_drew ?_ | refine blk_alloc ?_ _)); exact BK132.out)) : gb132 ≠ gb138))
                have n7_ := Aside0.mk ((by rw [hg]; exact Nat.ne_of_gt (blk_lt (g := gb132) (o := .cells #[.int .i64 a0_0, .int .i64 a0_1, .int .i64 a0_2, .int .i64 a0_3, .slice A0_4 l0_4.length c0_4, .slice A0_5 l0_5.length c0_5] 25 (0, 0)) (by (with_reducible repeat (first | refine blk_drewN ?_ _ | refine blk_drew ?_ | refine blk_alloc ?_ _)); exact BK132.out)) : gb138 ≠ gb132))
                have n8_ := Aside0.mk ((by rw [hg]; exact Nat.ne_of_lt (blk_lt (g := gb133) (o := .cells #[.int .i64 0, .int .i64 0, .int .i64 0, .int .i64 0, .slice none 0 0, .slice none 0 0] 25 (0, 0)) (by (with_reducible repeat (first | refine blk_drewN ?_ _ | refine blk_drew ?_ | refine blk_alloc ?_ _)); exact BK133.out)) : gb133 ≠ gb138))
                have n9_ := Aside0.mk ((by rw [hg]; exact Nat.ne_of_gt (blk_lt (g := gb133) (o := .cells #[.int .i64 0, .int .i64 0, .int .i64 0, .int .i64 0, .slice none 0 0, .slice none 0 0] 25 (0, 0)) (by (with_reducible repeat (first | refine blk_drewN ?_ _ | refine blk_drew ?_ | refine blk_alloc ?_ _)); exact BK133.out)) : gb138 ≠ gb133))
                clear BK132
                clear BK133
                clear HB
                have BK132 := n0_
                have BK133 := n1_
                have HB := n2_
                have BK138 := n3_
                have GW138 := n4_
                have GE138 := n5_
                have NB132_138 := n6_
                have NB138_132 := n7_
                have NB133_138 := n8_
                have NB138_133 := n9_
                clear n0_ n1_ n2_ n3_ n4_ n5_ n6_ n7_ n8_ n9_
                clear hb hbox hg
                refine hK.out _ _ ⟨(blk_cell BK132.out 0).trans rfl, (blk_cell BK132.out 1).trans rfl, (blk_cell BK132.out 2).trans rfl, (blk_cell BK132.out 3).trans rfl, (blk_cell BK132.out 4).trans rfl, (blk_cell BK132.out 5).trans rfl⟩ (fun hHeld => ?_)
                clear hK K
                refine norm_ (a' := ?_) ?_ ?_
                rotate_left
                · show Act.put _ (some 3) _ = _
                  simp only [Act.put, List.setIfInBounds_toArray, List.set_cons_zero, List.set_cons_succ, i64_w, i32_w]
                  rfl
                exact norm_ (by first | (simp only [putAll, Act.put, List.setIfInBounds_toArray, List.set_cons_zero, List.set_cons_succ]; done) | (simp only [putAll, Act.put, List.setIfInBounds_toArray, List.set_cons_zero, List.set_cons_succ]; rfl)) (hJ2_5_13 (gb138) _ ⟨hHeld, (by (with_reducible repeat (first | refine blk_drewN ?_ _ | refine blk_drew ?_ | refine blk_alloc ?_ _)); exact BK132.out), (by (with_reducible repeat (first | refine blk_drewN ?_ _ | refine blk_drew ?_ | refine blk_alloc ?_ _)); exact BK133.out), (by (with_reducible repeat (first | refine blk_drewN ?_ _ | refine blk_drew ?_ | refine blk_alloc ?_ _)); exact BK138.out), GW138.out, GE138.out, NB132_138.out, NB138_132.out, NB133_138.out, NB138_133.out, (by repeat (first | (with_reducible first | exact HB.out | apply below_alloc | apply pw_below_drewN | apply below_drew1 | refine below_set ?_ GE132.out | refine below_set ?_ GE133.out | refine below_set ?_ GE138.out) | exact HB.out))⟩)
          · skip
            rintro gb138 w10 ⟨hS_, h0_, h1_, h2_, h3_, h4_, h5_, h6_, h7_, h8_, h9_⟩
            have n0_ : Aside0 (w10.heap[gb132]? = some (.cells #[.int .i64 a0_0, .int .i64 a0_1, .int .i64 a0_2, .int .i64 a0_3, .slice A0_4 l0_4.length c0_4, .slice A0_5 l0_5.length c0_5] 25 (0, 0))) := ⟨h0_⟩
            have n1_ : Aside0 (w10.heap[gb133]? = some (.cells #[.int .i64 0, .int .i64 0, .int .i64 0, .int .i64 0, .slice none 0 0, .slice none 0 0] 25 (0, 0))) := ⟨h1_⟩
            have n2_ : Aside0 (w10.heap[gb138]? = some (.cells #[.int .i64 0, .int .i64 0, .int .i64 0, .int .i64 0, .slice none 0 0, .slice none 0 0] 25 (0, 0))) := ⟨h2_⟩
            have n3_ : Aside0 (w.heap.size ≤ gb138) := ⟨h3_⟩
            have n4_ : Aside0 (w.heap.size ≤ gb138) := ⟨h4_⟩
            have n5_ : Aside0 (gb132 ≠ gb138) := ⟨h5_⟩
            have n6_ : Aside0 (gb138 ≠ gb132) := ⟨h6_⟩
            have n7_ : Aside0 (gb133 ≠ gb138) := ⟨h7_⟩
            have n8_ : Aside0 (gb138 ≠ gb133) := ⟨h8_⟩
            have n9_ : Aside0 (Below w.heap.size w w10) := ⟨h9_⟩
            clear BK132
            clear BK133
            clear HB
            clear h0_ h1_ h2_ h3_ h4_ h5_ h6_ h7_ h8_ h9_
            have BK132 := n0_
            have BK133 := n1_
            have BK138 := n2_
            have GW138 := n3_
            have GE138 := n4_
            have NB132_138 := n5_
            have NB138_132 := n6_
            have NB133_138 := n7_
            have NB138_133 := n8_
            have HB := n9_
            clear n0_ n1_ n2_ n3_ n4_ n5_ n6_ n7_ n8_ n9_
            have hHeld : w10.cell? ⟨gb132, 0, none⟩ = some (.int .i64 a0_0) ∧ w10.cell? ⟨gb132, 1, none⟩ = some (.int .i64 a0_1) ∧ w10.cell? ⟨gb132, 2, none⟩ = some (.int .i64 a0_2) ∧ w10.cell? ⟨gb132, 3, none⟩ = some (.int .i64 a0_3) ∧ w10.cell? ⟨gb132, 4, none⟩ = some (.slice A0_4 l0_4.length c0_4) ∧ w10.cell? ⟨gb132, 5, none⟩ = some (.slice A0_5 l0_5.length c0_5) := hS_
            refine norm_ (a' := ?_) ?_ ?_
            rotate_left
            · simp only [putAll, Act.put, List.setIfInBounds_toArray, List.set_cons_zero, List.set_cons_succ]
              rfl
            refine one_ (i := 8) (N := some 20) #[true, true, true, true, true, true, true, true, true, true, true, false, false, true, false] rfl rfl (one_of HT_.out (by kernel_rfl)) (by decide) (fun K hK => ?_)
            refine goes_ Try.func27 (by kernel_rfl) rfl #[.int .i64 a0_2, .int .i64 100] (by rfl) rfl rfl (by (try simp only [List.map_toArray, List.map_cons, List.map_nil]); first | done | rfl | (simp only [List.length_drop, List.length_take]; rfl)) ?_
            with_reducible refine (fill_or.calls a0_2 100 t136 _ A4.out).mono ?_
            rintro e w' ⟨rfl, ⟨nd, rfl⟩⟩
            refine ⟨_, rfl, ?_⟩
            refine hK.out _ _ ⟨(blk_cell BK132.out 0).trans rfl, (blk_cell BK132.out 1).trans rfl, (blk_cell BK132.out 2).trans rfl, (blk_cell BK132.out 3).trans rfl, (blk_cell BK132.out 4).trans rfl, (blk_cell BK132.out 5).trans rfl⟩ (fun hHeld => ?_)
            clear hK K
            refine norm_ (a' := ?_) ?_ ?_
            rotate_left
            · show Act.put _ (some 20) _ = _
              simp only [Act.put, List.setIfInBounds_toArray, List.set_cons_zero, List.set_cons_succ, i64_w, i32_w]
              rfl
            exact norm_ (by first | (simp only [putAll, Act.put, List.setIfInBounds_toArray, List.set_cons_zero, List.set_cons_succ]; done) | (simp only [putAll, Act.put, List.setIfInBounds_toArray, List.set_cons_zero, List.set_cons_succ]; rfl)) (hJ2_5_8_13 (gb138) _ ⟨hHeld, (by (with_reducible repeat (first | refine blk_drewN ?_ _ | refine blk_drew ?_ | refine blk_alloc ?_ _)); exact BK132.out), (by (with_reducible repeat (first | refine blk_drewN ?_ _ | refine blk_drew ?_ | refine blk_alloc ?_ _)); exact BK133.out), (by (with_reducible repeat (first | refine blk_drewN ?_ _ | refine blk_drew ?_ | refine blk_alloc ?_ _)); exact BK138.out), GW138.out, GE138.out, NB132_138.out, NB138_132.out, NB133_138.out, NB138_133.out, (by repeat (first | (with_reducible first | exact HB.out | apply below_alloc | apply pw_below_drewN | apply below_drew1 | refine below_set ?_ GE132.out | refine below_set ?_ GE133.out | refine below_set ?_ GE138.out) | exact HB.out))⟩)
        · skip
          rintro _ w9 ⟨hS_, h0_, h1_, h2_⟩
          have n0_ : Aside0 (w9.heap[gb132]? = some (.cells #[.int .i64 a0_0, .int .i64 a0_1, .int .i64 a0_2, .int .i64 a0_3, .slice A0_4 l0_4.length c0_4, .slice A0_5 l0_5.length c0_5] 25 (0, 0))) := ⟨h0_⟩
          have n1_ : Aside0 (w9.heap[gb133]? = some (.cells #[.int .i64 0, .int .i64 0, .int .i64 0, .int .i64 0, .slice none 0 0, .slice none 0 0] 25 (0, 0))) := ⟨h1_⟩
          have n2_ : Aside0 (Below w.heap.size w w9) := ⟨h2_⟩
          clear BK132
          clear BK133
          clear HB
          clear h0_ h1_ h2_
          have BK132 := n0_
          have BK133 := n1_
          have HB := n2_
          clear n0_ n1_ n2_
          have hHeld : w9.cell? ⟨gb132, 0, none⟩ = some (.int .i64 a0_0) ∧ w9.cell? ⟨gb132, 1, none⟩ = some (.int .i64 a0_1) ∧ w9.cell? ⟨gb132, 2, none⟩ = some (.int .i64 a0_2) ∧ w9.cell? ⟨gb132, 3, none⟩ = some (.int .i64 a0_3) ∧ w9.cell? ⟨gb132, 4, none⟩ = some (.slice A0_4 l0_4.length c0_4) ∧ w9.cell? ⟨gb132, 5, none⟩ = some (.slice A0_5 l0_5.length c0_5) := hS_
          refine norm_ (a' := ?_) ?_ ?_
          rotate_left
          · simp only [putAll, Act.put, List.setIfInBounds_toArray, List.set_cons_zero, List.set_cons_succ]
            rfl
          refine two_ (i := 11) (j := 13) (Ni := some 23) (Nj := some 3) #[true, true, true, true, true, true, true, true, true, true, true, true, false, false, false] #[true, true, true, true, true, true, true, true, true, true, true, false, false, true, false] rfl rfl rfl rfl (two_of HT_.out (by kernel_rfl)) (by decide) (by decide) (fun K hK => ?_) (fun K hK => ?_)
          · skip
            refine goes_ Try.func27 (by kernel_rfl) rfl #[.int .i64 a0_3, .int .i64 10] (by rfl) rfl rfl (by (try simp only [List.map_toArray, List.map_cons, List.map_nil]); first | done | rfl | (simp only [List.length_drop, List.length_take]; rfl)) ?_
            with_reducible refine (fill_or.calls a0_3 10 t137 _ A5.out).mono ?_
            rintro e w' ⟨rfl, ⟨nd, rfl⟩⟩
            refine ⟨_, rfl, ?_⟩
            refine hK.out _ _ ⟨(blk_cell BK132.out 0).trans rfl, (blk_cell BK132.out 1).trans rfl, (blk_cell BK132.out 2).trans rfl, (blk_cell BK132.out 3).trans rfl, (blk_cell BK132.out 4).trans rfl, (blk_cell BK132.out 5).trans rfl⟩ (fun hHeld => ?_)
            clear hK K
            refine norm_ (a' := ?_) ?_ ?_
            rotate_left
            · show Act.put _ (some 23) _ = _
              simp only [Act.put, List.setIfInBounds_toArray, List.set_cons_zero, List.set_cons_succ, i64_w, i32_w]
              rfl
            refine pure_ (i := 12) (N := some 24) (v := ?_) (a' := ?_) #[true, true, true, true, true, true, true, true, true, true, true, true, true, false, false] rfl rfl (any_of HT_.out (by kernel_rfl)) (fun _ _ _ h => h) (Or.inl ⟨by rfl, ?_⟩) ?_ ?_
            rotate_left
            · intro w'
              go_simp
              with_reducible rfl
            rotate_left
            · simp only [Act.put, List.setIfInBounds_toArray, List.set_cons_zero, List.set_cons_succ, i64_w, i32_w]
              rfl
            exact norm_ (by first | (simp only [putAll, Act.put, List.setIfInBounds_toArray, List.set_cons_zero, List.set_cons_succ]; done) | (simp only [putAll, Act.put, List.setIfInBounds_toArray, List.set_cons_zero, List.set_cons_succ]; rfl)) (hJ2_5_8_11 () _ ⟨hHeld, (by (with_reducible repeat (first | refine blk_drewN ?_ _ | refine blk_drew ?_ | refine blk_alloc ?_ _)); exact BK132.out), (by (with_reducible repeat (first | refine blk_drewN ?_ _ | refine blk_drew ?_ | refine blk_alloc ?_ _)); exact BK133.out), (by repeat (first | (with_reducible first | exact HB.out | apply below_alloc | apply pw_below_drewN | apply below_drew1 | refine below_set ?_ GE132.out | refine below_set ?_ GE133.out) | exact HB.out))⟩)
          · skip
            refine box_step ?hg (N := 3) ?hd (cs := #[.int .i64 0, .int .i64 0, .int .i64 0, .int .i64 0, .slice none 0 0, .slice none 0 0]) (t := 25) ?hr ?_; (case hd => rfl); (case hg => rfl); (case hr => first | (go_simp; done) | (go_simp; rfl))
            intro gb138 hg w10 hbox hb
            have n0_ := Aside0.mk (blk_below (g := gb132) (o := .cells #[.int .i64 a0_0, .int .i64 a0_1, .int .i64 a0_2, .int .i64 a0_3, .slice A0_4 l0_4.length c0_4, .slice A0_5 l0_5.length c0_5] 25 (0, 0)) (by (with_reducible repeat (first | refine blk_drewN ?_ _ | refine blk_drew ?_ | refine blk_alloc ?_ _)); exact BK132.out) hb)
            have n1_ := Aside0.mk (blk_below (g := gb133) (o := .cells #[.int .i64 0, .int .i64 0, .int .i64 0, .int .i64 0, .slice none 0 0, .slice none 0 0] 25 (0, 0)) (by (with_reducible repeat (first | refine blk_drewN ?_ _ | refine blk_drew ?_ | refine blk_alloc ?_ _)); exact BK133.out) hb)
            have n2_ := Aside0.mk (below_step (by repeat (first | (with_reducible first | exact HB.out | apply below_alloc | apply pw_below_drewN | apply below_drew1 | refine below_set ?_ GE132.out | refine below_set ?_ GE133.out) | exact HB.out)) hb)
            have n3_ := Aside0.mk (hbox)
            have n4_ := Aside0.mk ((by rw [hg]; exact (below_size (by repeat (first | (with_reducible first | exact HB.out | apply below_alloc | apply pw_below_drewN | apply below_drew1 | refine below_set ?_ GE132.out | refine below_set ?_ GE133.out) | exact HB.out))) : w.heap.size ≤ gb138))
            have n5_ := Aside0.mk ((by rw [hg]; exact (below_size (by repeat (first | (with_reducible first | exact HB.out | apply below_alloc | apply pw_below_drewN | apply below_drew1 | refine below_set ?_ GE132.out | refine below_set ?_ GE133.out) | exact HB.out))) : w.heap.size ≤ gb138))
            have n6_ := Aside0.mk ((by rw [hg]; exact Nat.ne_of_lt (blk_lt (g := gb132) (o := .cells #[.int .i64 a0_0, .int .i64 a0_1, .int .i64 a0_2, .int .i64 a0_3, .slice A0_4 l0_4.length c0_4, .slice A0_5 l0_5.length c0_5] 25 (0, 0)) (by (with_reducible repeat (first | refine blk_drewN ?_ _ | refine blk_drew ?_ | refine blk_alloc ?_ _)); exact BK132.out)) : gb132 ≠ gb138))
            have n7_ := Aside0.mk ((by rw [hg]; exact Nat.ne_of_gt (blk_lt (g := gb132) (o := .cells #[.int .i64 a0_0, .int .i64 a0_1, .int .i64 a0_2, .int .i64 a0_3, .slice A0_4 l0_4.length c0_4, .slice A0_5 l0_5.length c0_5] 25 (0, 0)) (by (with_reducible repeat (first | refine blk_drewN ?_ _ | refine blk_drew ?_ | refine blk_alloc ?_ _)); exact BK132.out)) : gb138 ≠ gb132))
            have n8_ := Aside0.mk ((by rw [hg]; exact Nat.ne_of_lt (blk_lt (g := gb133) (o := .cells #[.int .i64 0, .int .i64 0, .int .i64 0, .int .i64 0, .slice none 0 0, .slice none 0 0] 25 (0, 0)) (by (with_reducible repeat (first | refine blk_drewN ?_ _ | refine blk_drew ?_ | refine blk_alloc ?_ _)); exact BK133.out)) : gb133 ≠ gb138))
            have n9_ := Aside0.mk ((by rw [hg]; exact Nat.ne_of_gt (blk_lt (g := gb133) (o := .cells #[.int .i64 0, .int .i64 0, .int .i64 0, .int .i64 0, .slice none 0 0, .slice none 0 0] 25 (0, 0)) (by (with_reducible repeat (first | refine blk_drewN ?_ _ | refine blk_drew ?_ | refine blk_alloc ?_ _)); exact BK133.out)) : gb138 ≠ gb133))
            clear BK132
            clear BK133
            clear HB
            have BK132 := n0_
            have BK133 := n1_
            have HB := n2_
            have BK138 := n3_
            have GW138 := n4_
            have GE138 := n5_
            have NB132_138 := n6_
            have NB138_132 := n7_
            have NB133_138 := n8_
            have NB138_133 := n9_
            clear n0_ n1_ n2_ n3_ n4_ n5_ n6_ n7_ n8_ n9_
            clear hb hbox hg
            refine hK.out _ _ ⟨(blk_cell BK132.out 0).trans rfl, (blk_cell BK132.out 1).trans rfl, (blk_cell BK132.out 2).trans rfl, (blk_cell BK132.out 3).trans rfl, (blk_cell BK132.out 4).trans rfl, (blk_cell BK132.out 5).trans rfl⟩ (fun hHeld => ?_)
            clear hK K
            refine norm_ (a' := ?_) ?_ ?_
            rotate_left
            · show Act.put _ (some 3) _ = _
              simp only [Act.put, List.setIfInBounds_toArray, List.set_cons_zero, List.set_cons_succ, i64_w, i32_w]
              rfl
            exact norm_ (by first | (simp only [putAll, Act.put, List.setIfInBounds_toArray, List.set_cons_zero, List.set_cons_succ]; done) | (simp only [putAll, Act.put, List.setIfInBounds_toArray, List.set_cons_zero, List.set_cons_succ]; rfl)) (hJ2_5_8_13 (gb138) _ ⟨hHeld, (by (with_reducible repeat (first | refine blk_drewN ?_ _ | refine blk_drew ?_ | refine blk_alloc ?_ _)); exact BK132.out), (by (with_reducible repeat (first | refine blk_drewN ?_ _ | refine blk_drew ?_ | refine blk_alloc ?_ _)); exact BK133.out), (by (with_reducible repeat (first | refine blk_drewN ?_ _ | refine blk_drew ?_ | refine blk_alloc ?_ _)); exact BK138.out), GW138.out, GE138.out, NB132_138.out, NB138_132.out, NB133_138.out, NB138_133.out, (by repeat (first | (with_reducible first | exact HB.out | apply below_alloc | apply pw_below_drewN | apply below_drew1 | refine below_set ?_ GE132.out | refine below_set ?_ GE133.out | refine below_set ?_ GE138.out) | exact HB.out))⟩)
      · skip
        rintro gb138 w10 ⟨hS_, h0_, h1_, h2_, h3_, h4_, h5_, h6_, h7_, h8_, h9_⟩
        have n0_ : Aside0 (w10.heap[gb132]? = some (.cells #[.int .i64 a0_0, .int .i64 a0_1, .int .i64 a0_2, .int .i64 a0_3, .slice A0_4 l0_4.length c0_4, .slice A0_5 l0_5.length c0_5] 25 (0, 0))) := ⟨h0_⟩
        have n1_ : Aside0 (w10.heap[gb133]? = some (.cells #[.int .i64 0, .int .i64 0, .int .i64 0, .int .i64 0, .slice none 0 0, .slice none 0 0] 25 (0, 0))) := ⟨h1_⟩
        have n2_ : Aside0 (w10.heap[gb138]? = some (.cells #[.int .i64 0, .int .i64 0, .int .i64 0, .int .i64 0, .slice none 0 0, .slice none 0 0] 25 (0, 0))) := ⟨h2_⟩
        have n3_ : Aside0 (w.heap.size ≤ gb138) := ⟨h3_⟩
        have n4_ : Aside0 (w.heap.size ≤ gb138) := ⟨h4_⟩
        have n5_ : Aside0 (gb132 ≠ gb138) := ⟨h5_⟩
        have n6_ : Aside0 (gb138 ≠ gb132) := ⟨h6_⟩
        have n7_ : Aside0 (gb133 ≠ gb138) := ⟨h7_⟩
        have n8_ : Aside0 (gb138 ≠ gb133) := ⟨h8_⟩
        have n9_ : Aside0 (Below w.heap.size w w10) := ⟨h9_⟩
        clear BK132
        clear BK133
        clear HB
        clear h0_ h1_ h2_ h3_ h4_ h5_ h6_ h7_ h8_ h9_
        have BK132 := n0_
        have BK133 := n1_
        have BK138 := n2_
        have GW138 := n3_
        have GE138 := n4_
        have NB132_138 := n5_
        have NB138_132 := n6_
        have NB133_138 := n7_
        have NB138_133 := n8_
        have HB := n9_
        clear n0_ n1_ n2_ n3_ n4_ n5_ n6_ n7_ n8_ n9_
        have hHeld : w10.cell? ⟨gb132, 0, none⟩ = some (.int .i64 a0_0) ∧ w10.cell? ⟨gb132, 1, none⟩ = some (.int .i64 a0_1) ∧ w10.cell? ⟨gb132, 2, none⟩ = some (.int .i64 a0_2) ∧ w10.cell? ⟨gb132, 3, none⟩ = some (.int .i64 a0_3) ∧ w10.cell? ⟨gb132, 4, none⟩ = some (.slice A0_4 l0_4.length c0_4) ∧ w10.cell? ⟨gb132, 5, none⟩ = some (.slice A0_5 l0_5.length c0_5) := hS_
        refine norm_ (a' := ?_) ?_ ?_
        rotate_left
        · simp only [putAll, Act.put, List.setIfInBounds_toArray, List.set_cons_zero, List.set_cons_succ]
          rfl
        refine one_ (i := 11) (N := some 23) #[true, true, true, true, true, true, true, true, true, true, true, true, false, true, false] rfl rfl (one_of HT_.out (by kernel_rfl)) (by decide) (fun K hK => ?_)
        refine goes_ Try.func27 (by kernel_rfl) rfl #[.int .i64 a0_3, .int .i64 10] (by rfl) rfl rfl (by (try simp only [List.map_toArray, List.map_cons, List.map_nil]); first | done | rfl | (simp only [List.length_drop, List.length_take]; rfl)) ?_
        with_reducible refine (fill_or.calls a0_3 10 t137 _ A5.out).mono ?_
        rintro e w' ⟨rfl, ⟨nd, rfl⟩⟩
        refine ⟨_, rfl, ?_⟩
        refine hK.out _ _ ⟨(blk_cell BK132.out 0).trans rfl, (blk_cell BK132.out 1).trans rfl, (blk_cell BK132.out 2).trans rfl, (blk_cell BK132.out 3).trans rfl, (blk_cell BK132.out 4).trans rfl, (blk_cell BK132.out 5).trans rfl⟩ (fun hHeld => ?_)
        clear hK K
        refine norm_ (a' := ?_) ?_ ?_
        rotate_left
        · show Act.put _ (some 23) _ = _
          simp only [Act.put, List.setIfInBounds_toArray, List.set_cons_zero, List.set_cons_succ, i64_w, i32_w]
          rfl
        refine pure_ (i := 12) (N := some 24) (v := ?_) (a' := ?_) #[true, true, true, true, true, true, true, true, true, true, true, true, true, true, false] rfl rfl (any_of HT_.out (by kernel_rfl)) (fun _ _ _ h => h) (Or.inl ⟨by rfl, ?_⟩) ?_ ?_
        rotate_left
        · intro w'
          go_simp
          with_reducible rfl
        rotate_left
        · simp only [Act.put, List.setIfInBounds_toArray, List.set_cons_zero, List.set_cons_succ, i64_w, i32_w]
          rfl
        exact norm_ (by first | (simp only [putAll, Act.put, List.setIfInBounds_toArray, List.set_cons_zero, List.set_cons_succ]; done) | (simp only [putAll, Act.put, List.setIfInBounds_toArray, List.set_cons_zero, List.set_cons_succ]; rfl)) (hJ2_5_8_11_13 (gb138) _ ⟨hHeld, (by (with_reducible repeat (first | refine blk_drewN ?_ _ | refine blk_drew ?_ | refine blk_alloc ?_ _)); exact BK132.out), (by (with_reducible repeat (first | refine blk_drewN ?_ _ | refine blk_drew ?_ | refine blk_alloc ?_ _)); exact BK133.out), (by (with_reducible repeat (first | refine blk_drewN ?_ _ | refine blk_drew ?_ | refine blk_alloc ?_ _)); exact BK138.out), GW138.out, GE138.out, NB132_138.out, NB138_132.out, NB133_138.out, NB138_133.out, (by repeat (first | (with_reducible first | exact HB.out | apply below_alloc | apply pw_below_drewN | apply below_drew1 | refine below_set ?_ GE132.out | refine below_set ?_ GE133.out | refine below_set ?_ GE138.out) | exact HB.out))⟩)
    · skip
      rintro _ w9 ⟨hS_, h0_, h1_, h2_⟩
      have n0_ : Aside0 (w9.heap[gb132]? = some (.cells #[.int .i64 a0_0, .int .i64 a0_1, .int .i64 a0_2, .int .i64 a0_3, .slice A0_4 l0_4.length c0_4, .slice A0_5 l0_5.length c0_5] 25 (0, 0))) := ⟨h0_⟩
      have n1_ : Aside0 (w9.heap[gb133]? = some (.cells #[.int .i64 0, .int .i64 0, .int .i64 0, .int .i64 0, .slice none 0 0, .slice none 0 0] 25 (0, 0))) := ⟨h1_⟩
      have n2_ : Aside0 (Below w.heap.size w w9) := ⟨h2_⟩
      clear BK132
      clear BK133
      clear HB
      clear h0_ h1_ h2_
      have BK132 := n0_
      have BK133 := n1_
      have HB := n2_
      clear n0_ n1_ n2_
      have hHeld : w9.cell? ⟨gb132, 0, none⟩ = some (.int .i64 a0_0) ∧ w9.cell? ⟨gb132, 1, none⟩ = some (.int .i64 a0_1) ∧ w9.cell? ⟨gb132, 2, none⟩ = some (.int .i64 a0_2) ∧ w9.cell? ⟨gb132, 3, none⟩ = some (.int .i64 a0_3) ∧ w9.cell? ⟨gb132, 4, none⟩ = some (.slice A0_4 l0_4.length c0_4) ∧ w9.cell? ⟨gb132, 5, none⟩ = some (.slice A0_5 l0_5.length c0_5) := hS_
      refine norm_ (a' := ?_) ?_ ?_
      rotate_left
      · simp only [putAll, Act.put, List.setIfInBounds_toArray, List.set_cons_zero, List.set_cons_succ]
        rfl
      refine one_ (i := 13) (N := some 3) #[true, true, true, true, true, true, true, true, true, true, true, true, true, true, false] rfl rfl (one_of HT_.out (by kernel_rfl)) (by decide) (fun K hK => ?_)
      refine box_step ?hg (N := 3) ?hd (cs := #[.int .i64 0, .int .i64 0, .int .i64 0, .int .i64 0, .slice none 0 0, .slice none 0 0]) (t := 25) ?hr ?_; (case hd => rfl); (case hg => rfl); (case hr => first | (go_simp; done) | (go_simp; rfl))
      intro gb138 hg w10 hbox hb
      have n0_ := Aside0.mk (blk_below (g := gb132) (o := .cells #[.int .i64 a0_0, .int .i64 a0_1, .int .i64 a0_2, .int .i64 a0_3, .slice A0_4 l0_4.length c0_4, .slice A0_5 l0_5.length c0_5] 25 (0, 0)) (by (with_reducible repeat (first | refine blk_drewN ?_ _ | refine blk_drew ?_ | refine blk_alloc ?_ _)); exact BK132.out) hb)
      have n1_ := Aside0.mk (blk_below (g := gb133) (o := .cells #[.int .i64 0, .int .i64 0, .int .i64 0, .int .i64 0, .slice none 0 0, .slice none 0 0] 25 (0, 0)) (by (with_reducible repeat (first | refine blk_drewN ?_ _ | refine blk_drew ?_ | refine blk_alloc ?_ _)); exact BK133.out) hb)
      have n2_ := Aside0.mk (below_step (by repeat (first | (with_reducible first | exact HB.out | apply below_alloc | apply pw_below_drewN | apply below_drew1 | refine below_set ?_ GE132.out | refine below_set ?_ GE133.out) | exact HB.out)) hb)
      have n3_ := Aside0.mk (hbox)
      have n4_ := Aside0.mk ((by rw [hg]; exact (below_size (by repeat (first | (with_reducible first | exact HB.out | apply below_alloc | apply pw_below_drewN | apply below_drew1 | refine below_set ?_ GE132.out | refine below_set ?_ GE133.out) | exact HB.out))) : w.heap.size ≤ gb138))
      have n5_ := Aside0.mk ((by rw [hg]; exact (below_size (by repeat (first | (with_reducible first | exact HB.out | apply below_alloc | apply pw_below_drewN | apply below_drew1 | refine below_set ?_ GE132.out | refine below_set ?_ GE133.out) | exact HB.out))) : w.heap.size ≤ gb138))
      have n6_ := Aside0.mk ((by rw [hg]; exact Nat.ne_of_lt (blk_lt (g := gb132) (o := .cells #[.int .i64 a0_0, .int .i64 a0_1, .int .i64 a0_2, .int .i64 a0_3, .slice A0_4 l0_4.length c0_4, .slice A0_5 l0_5.length c0_5] 25 (0, 0)) (by (with_reducible repeat (first | refine blk_drewN ?_ _ | refine blk_drew ?_ | refine blk_alloc ?_ _)); exact BK132.out)) : gb132 ≠ gb138))
      have n7_ := Aside0.mk ((by rw [hg]; exact Nat.ne_of_gt (blk_lt (g := gb132) (o := .cells #[.int .i64 a0_0, .int .i64 a0_1, .int .i64 a0_2, .int .i64 a0_3, .slice A0_4 l0_4.length c0_4, .slice A0_5 l0_5.length c0_5] 25 (0, 0)) (by (with_reducible repeat (first | refine blk_drewN ?_ _ | refine blk_drew ?_ | refine blk_alloc ?_ _)); exact BK132.out)) : gb138 ≠ gb132))
      have n8_ := Aside0.mk ((by rw [hg]; exact Nat.ne_of_lt (blk_lt (g := gb133) (o := .cells #[.int .i64 0, .int .i64 0, .int .i64 0, .int .i64 0, .slice none 0 0, .slice none 0 0] 25 (0, 0)) (by (with_reducible repeat (first | refine blk_drewN ?_ _ | refine blk_drew ?_ | refine blk_alloc ?_ _)); exact BK133.out)) : gb133 ≠ gb138))
      have n9_ := Aside0.mk ((by rw [hg]; exact Nat.ne_of_gt (blk_lt (g := gb133) (o := .cells #[.int .i64 0, .int .i64 0, .int .i64 0, .int .i64 0, .slice none 0 0, .slice none 0 0] 25 (0, 0)) (by (with_reducible repeat (first | refine blk_drewN ?_ _ | refine blk_drew ?_ | refine blk_alloc ?_ _)); exact BK133.out)) : gb138 ≠ gb133))
      clear BK132
      clear BK133
      clear HB
      have BK132 := n0_
      have BK133 := n1_
      have HB := n2_
      have BK138 := n3_
      have GW138 := n4_
      have GE138 := n5_
      have NB132_138 := n6_
      have NB138_132 := n7_
      have NB133_138 := n8_
      have NB138_133 := n9_
      clear n0_ n1_ n2_ n3_ n4_ n5_ n6_ n7_ n8_ n9_
      clear hb hbox hg
      refine hK.out _ _ ⟨(blk_cell BK132.out 0).trans rfl, (blk_cell BK132.out 1).trans rfl, (blk_cell BK132.out 2).trans rfl, (blk_cell BK132.out 3).trans rfl, (blk_cell BK132.out 4).trans rfl, (blk_cell BK132.out 5).trans rfl⟩ (fun hHeld => ?_)
      clear hK K
      refine norm_ (a' := ?_) ?_ ?_
      rotate_left
      · show Act.put _ (some 3) _ = _
        simp only [Act.put, List.setIfInBounds_toArray, List.set_cons_zero, List.set_cons_succ, i64_w, i32_w]
        rfl
      exact norm_ (by first | (simp only [putAll, Act.put, List.setIfInBounds_toArray, List.set_cons_zero, List.set_cons_succ]; done) | (simp only [putAll, Act.put, List.setIfInBounds_toArray, List.set_cons_zero, List.set_cons_succ]; rfl)) (hJ2_5_8_11_13 (gb138) _ ⟨hHeld, (by (with_reducible repeat (first | refine blk_drewN ?_ _ | refine blk_drew ?_ | refine blk_alloc ?_ _)); exact BK132.out), (by (with_reducible repeat (first | refine blk_drewN ?_ _ | refine blk_drew ?_ | refine blk_alloc ?_ _)); exact BK133.out), (by (with_reducible repeat (first | refine blk_drewN ?_ _ | refine blk_drew ?_ | refine blk_alloc ?_ _)); exact BK138.out), GW138.out, GE138.out, NB132_138.out, NB138_132.out, NB133_138.out, NB138_133.out, (by repeat (first | (with_reducible first | exact HB.out | apply below_alloc | apply pw_below_drewN | apply below_drew1 | refine below_set ?_ GE132.out | refine below_set ?_ GE133.out | refine below_set ?_ GE138.out) | exact HB.out))⟩)
  rintro gb138 w10 ⟨hS_, h0_, h1_, h2_, h3_, h4_, h5_, h6_, h7_, h8_, h9_⟩
  have n0_ : Aside0 (w10.heap[gb132]? = some (.cells #[.int .i64 a0_0, .int .i64 a0_1, .int .i64 a0_2, .int .i64 a0_3, .slice A0_4 l0_4.length c0_4, .slice A0_5 l0_5.length c0_5] 25 (0, 0))) := ⟨h0_⟩
  have n1_ : Aside0 (w10.heap[gb133]? = some (.cells #[.int .i64 0, .int .i64 0, .int .i64 0, .int .i64 0, .slice none 0 0, .slice none 0 0] 25 (0, 0))) := ⟨h1_⟩
  have n2_ : Aside0 (w10.heap[gb138]? = some (.cells #[.int .i64 0, .int .i64 0, .int .i64 0, .int .i64 0, .slice none 0 0, .slice none 0 0] 25 (0, 0))) := ⟨h2_⟩
  have n3_ : Aside0 (w.heap.size ≤ gb138) := ⟨h3_⟩
  have n4_ : Aside0 (w.heap.size ≤ gb138) := ⟨h4_⟩
  have n5_ : Aside0 (gb132 ≠ gb138) := ⟨h5_⟩
  have n6_ : Aside0 (gb138 ≠ gb132) := ⟨h6_⟩
  have n7_ : Aside0 (gb133 ≠ gb138) := ⟨h7_⟩
  have n8_ : Aside0 (gb138 ≠ gb133) := ⟨h8_⟩
  have n9_ : Aside0 (Below w.heap.size w w10) := ⟨h9_⟩
  clear BK132
  clear BK133
  clear HB
  clear h0_ h1_ h2_ h3_ h4_ h5_ h6_ h7_ h8_ h9_
  have BK132 := n0_
  have BK133 := n1_
  have BK138 := n2_
  have GW138 := n3_
  have GE138 := n4_
  have NB132_138 := n5_
  have NB138_132 := n6_
  have NB133_138 := n7_
  have NB138_133 := n8_
  have HB := n9_
  clear n0_ n1_ n2_ n3_ n4_ n5_ n6_ n7_ n8_ n9_
  have hHeld : w10.cell? ⟨gb132, 0, none⟩ = some (.int .i64 a0_0) ∧ w10.cell? ⟨gb132, 1, none⟩ = some (.int .i64 a0_1) ∧ w10.cell? ⟨gb132, 2, none⟩ = some (.int .i64 a0_2) ∧ w10.cell? ⟨gb132, 3, none⟩ = some (.int .i64 a0_3) ∧ w10.cell? ⟨gb132, 4, none⟩ = some (.slice A0_4 l0_4.length c0_4) ∧ w10.cell? ⟨gb132, 5, none⟩ = some (.slice A0_5 l0_5.length c0_5) := hS_
  refine norm_ (a' := ?_) ?_ ?_
  rotate_left
  · simp only [putAll, Act.put, List.setIfInBounds_toArray, List.set_cons_zero, List.set_cons_succ]
    rfl
  refine one_ (i := 14) (N := none) #[true, true, true, true, true, true, true, true, true, true, true, true, true, true, true] rfl rfl (one_of HT_.out (by kernel_rfl)) (by decide) (fun K hK => ?_)
  have hs11 : w10.cell? ⟨gb138, 0, none⟩ = some (.int .i64 0) := (blk_cell BK138.out 0).trans rfl
  have hfs11 := blk_frozen BK138.out 0
  have hns11_0 := NB132_138.out
  have hns11_1 := NB133_138.out
  have hms11_0 := NB138_132.out
  have hms11_1 := NB138_133.out
  have hs12 : w10.cell? ⟨gb138, 1, none⟩ = some (.int .i64 0) := (blk_cell BK138.out 1).trans rfl
  have hfs12 := blk_frozen BK138.out 1
  have hns12_0 := NB132_138.out
  have hns12_1 := NB133_138.out
  have hms12_0 := NB138_132.out
  have hms12_1 := NB138_133.out
  have hs13 : w10.cell? ⟨gb138, 2, none⟩ = some (.int .i64 0) := (blk_cell BK138.out 2).trans rfl
  have hfs13 := blk_frozen BK138.out 2
  have hns13_0 := NB132_138.out
  have hns13_1 := NB133_138.out
  have hms13_0 := NB138_132.out
  have hms13_1 := NB138_133.out
  have hs14 : w10.cell? ⟨gb138, 3, none⟩ = some (.int .i64 0) := (blk_cell BK138.out 3).trans rfl
  have hfs14 := blk_frozen BK138.out 3
  have hns14_0 := NB132_138.out
  have hns14_1 := NB133_138.out
  have hms14_0 := NB138_132.out
  have hms14_1 := NB138_133.out
  have hs15 : w10.cell? ⟨gb138, 4, none⟩ = some (.slice none 0 0) := (blk_cell BK138.out 4).trans rfl
  have hfs15 := blk_frozen BK138.out 4
  have hns15_0 := NB132_138.out
  have hns15_1 := NB133_138.out
  have hms15_0 := NB138_132.out
  have hms15_1 := NB138_133.out
  have hs16 : w10.cell? ⟨gb138, 5, none⟩ = some (.slice none 0 0) := (blk_cell BK138.out 5).trans rfl
  have hfs16 := blk_frozen BK138.out 5
  have hns16_0 := NB132_138.out
  have hns16_1 := NB133_138.out
  have hms16_0 := NB138_132.out
  have hms16_1 := NB138_133.out
  refine skip_ (w1 := ?_) (by rfl) rfl ?_ ?_
  rotate_left
  · go_simp
    rfl
  refine hK.out _ _ ⟨((cell_far (p := ⟨gb138, _, none⟩) NB132_138.out _).trans (((cell_far (p := ⟨gb138, _, none⟩) NB132_138.out _).trans (((cell_far (p := ⟨gb138, _, none⟩) NB132_138.out _).trans (((cell_far (p := ⟨gb138, _, none⟩) NB132_138.out _).trans (((cell_far (p := ⟨gb138, _, none⟩) NB132_138.out _).trans (((cell_far (p := ⟨gb138, _, none⟩) NB132_138.out _).trans (hHeld.1)))))))))))), ((cell_far (p := ⟨gb138, _, none⟩) NB132_138.out _).trans (((cell_far (p := ⟨gb138, _, none⟩) NB132_138.out _).trans (((cell_far (p := ⟨gb138, _, none⟩) NB132_138.out _).trans (((cell_far (p := ⟨gb138, _, none⟩) NB132_138.out _).trans (((cell_far (p := ⟨gb138, _, none⟩) NB132_138.out _).trans (((cell_far (p := ⟨gb138, _, none⟩) NB132_138.out _).trans (hHeld.2.1)))))))))))), ((cell_far (p := ⟨gb138, _, none⟩) NB132_138.out _).trans (((cell_far (p := ⟨gb138, _, none⟩) NB132_138.out _).trans (((cell_far (p := ⟨gb138, _, none⟩) NB132_138.out _).trans (((cell_far (p := ⟨gb138, _, none⟩) NB132_138.out _).trans (((cell_far (p := ⟨gb138, _, none⟩) NB132_138.out _).trans (((cell_far (p := ⟨gb138, _, none⟩) NB132_138.out _).trans (hHeld.2.2.1)))))))))))), ((cell_far (p := ⟨gb138, _, none⟩) NB132_138.out _).trans (((cell_far (p := ⟨gb138, _, none⟩) NB132_138.out _).trans (((cell_far (p := ⟨gb138, _, none⟩) NB132_138.out _).trans (((cell_far (p := ⟨gb138, _, none⟩) NB132_138.out _).trans (((cell_far (p := ⟨gb138, _, none⟩) NB132_138.out _).trans (((cell_far (p := ⟨gb138, _, none⟩) NB132_138.out _).trans (hHeld.2.2.2.1)))))))))))), ((cell_far (p := ⟨gb138, _, none⟩) NB132_138.out _).trans (((cell_far (p := ⟨gb138, _, none⟩) NB132_138.out _).trans (((cell_far (p := ⟨gb138, _, none⟩) NB132_138.out _).trans (((cell_far (p := ⟨gb138, _, none⟩) NB132_138.out _).trans (((cell_far (p := ⟨gb138, _, none⟩) NB132_138.out _).trans (((cell_far (p := ⟨gb138, _, none⟩) NB132_138.out _).trans (hHeld.2.2.2.2.1)))))))))))), ((cell_far (p := ⟨gb138, _, none⟩) NB132_138.out _).trans (((cell_far (p := ⟨gb138, _, none⟩) NB132_138.out _).trans (((cell_far (p := ⟨gb138, _, none⟩) NB132_138.out _).trans (((cell_far (p := ⟨gb138, _, none⟩) NB132_138.out _).trans (((cell_far (p := ⟨gb138, _, none⟩) NB132_138.out _).trans (((cell_far (p := ⟨gb138, _, none⟩) NB132_138.out _).trans (hHeld.2.2.2.2.2))))))))))))⟩ (fun hHeld => ?_)
  clear hK K
  refine done_ (done_of HT_.out (by kernel_rfl)) ?_
  have B1 : Aside0 (((((((w10.setCell ⟨gb138, 0, none⟩ (.int .i64 t134)).setCell ⟨gb138, 1, none⟩ (.int .i64 t135)).setCell ⟨gb138, 2, none⟩ (.int .i64 t136)).setCell ⟨gb138, 3, none⟩ (.int .i64 t137)).setCell ⟨gb138, 4, none⟩ (.slice none 0 0)).setCell ⟨gb138, 5, none⟩ (.slice none 0 0)).heap[gb132]? = some (.cells #[.int .i64 a0_0, .int .i64 a0_1, .int .i64 a0_2, .int .i64 a0_3, .slice A0_4 l0_4.length c0_4, .slice A0_5 l0_5.length c0_5] 25 (0, 0))) := ⟨blk_far (blk_far (blk_far (blk_far (blk_far (blk_far (BK132.out) NB132_138.out _) NB132_138.out _) NB132_138.out _) NB132_138.out _) NB132_138.out _) NB132_138.out _⟩
  have B2 : Aside0 (((((((w10.setCell ⟨gb138, 0, none⟩ (.int .i64 t134)).setCell ⟨gb138, 1, none⟩ (.int .i64 t135)).setCell ⟨gb138, 2, none⟩ (.int .i64 t136)).setCell ⟨gb138, 3, none⟩ (.int .i64 t137)).setCell ⟨gb138, 4, none⟩ (.slice none 0 0)).setCell ⟨gb138, 5, none⟩ (.slice none 0 0)).heap[gb133]? = some (.cells #[.int .i64 0, .int .i64 0, .int .i64 0, .int .i64 0, .slice none 0 0, .slice none 0 0] 25 (0, 0))) := ⟨blk_far (blk_far (blk_far (blk_far (blk_far (blk_far (BK133.out) NB133_138.out _) NB133_138.out _) NB133_138.out _) NB133_138.out _) NB133_138.out _) NB133_138.out _⟩
  have B3 : Aside0 (((((((w10.setCell ⟨gb138, 0, none⟩ (.int .i64 t134)).setCell ⟨gb138, 1, none⟩ (.int .i64 t135)).setCell ⟨gb138, 2, none⟩ (.int .i64 t136)).setCell ⟨gb138, 3, none⟩ (.int .i64 t137)).setCell ⟨gb138, 4, none⟩ (.slice none 0 0)).setCell ⟨gb138, 5, none⟩ (.slice none 0 0)).heap[gb138]? = some (.cells #[.int .i64 t134, .int .i64 t135, .int .i64 t136, .int .i64 t137, .slice none 0 0, .slice none 0 0] 25 (0, 0))) := ⟨blk_set (blk_set (blk_set (blk_set (blk_set (blk_set (BK138.out) 0 _) 1 _) 2 _) 3 _) 4 _) 5 _⟩
  have B0 : Aside0 (Below w.heap.size w ((((((w10.setCell ⟨gb138, 0, none⟩ (.int .i64 t134)).setCell ⟨gb138, 1, none⟩ (.int .i64 t135)).setCell ⟨gb138, 2, none⟩ (.int .i64 t136)).setCell ⟨gb138, 3, none⟩ (.int .i64 t137)).setCell ⟨gb138, 4, none⟩ (.slice none 0 0)).setCell ⟨gb138, 5, none⟩ (.slice none 0 0))) := ⟨below_set (below_set (below_set (below_set (below_set (below_set (HB.out) GE138.out) GE138.out) GE138.out) GE138.out) GE138.out) GE138.out⟩
  clear hHeld hS_ hs11 hfs11 hns11_0 hns11_1 hms11_0 hms11_1 hs12 hfs12 hns12_0 hns12_1 hms12_0 hms12_1 hs13 hfs13 hns13_0 hns13_1 hms13_0 hms13_1 hs14 hfs14 hns14_0 hns14_1 hms14_0 hms14_1 hs15 hfs15 hns15_0 hns15_1 hms15_0 hms15_1 hs16 hfs16 hns16_0 hns16_1 hms16_0 hms16_1 BK132 BK133 BK138 HB HT_ HW_
  generalize (((((w10.setCell ⟨gb138, 0, none⟩ (.int .i64 t134)).setCell ⟨gb138, 1, none⟩ (.int .i64 t135)).setCell ⟨gb138, 2, none⟩ (.int .i64 t136)).setCell ⟨gb138, 3, none⟩ (.int .i64 t137)).setCell ⟨gb138, 4, none⟩ (.slice none 0 0)).setCell ⟨gb138, 5, none⟩ (.slice none 0 0) = W0 at B1 B2 B3 B0 ⊢
  try clear hHeld
  try clear hHeld
  try clear hHeld
  clear w10 w8 GW132 GW133 GW138 A2 A3 A4 A5
  have hmm := @run_makeMap Try.prog
  have HGE := Aside0.mk (show w.heap.size ≤ W0.heap.size from B0.out.size)
  go_wp2_with (first | ((with_reducible refine gate_dst (N := 25) rfl ?_); refine map_event ?hg ?hr ?_; (case hg => rfl); (case hr => first | (go_simp; done) | (go_simp; rfl)); intro m4 W1 hm hM4 hb; have HM4 := Aside0.mk hM4; have HB1 := Aside0.mk hb; have Hm4 := Aside0.mk hm; clear hM4 hb hm) | ((with_reducible refine gate_dst (N := 26) rfl ?_); refine map_event ?hg ?hr ?_; (case hg => rfl); (case hr => first | (go_simp; done) | (go_simp; rfl)); intro m5 W2 hm hM5 hb; have HST : Aside0 (St w W2 gb132 gb133 gb138 m4 m5 _ _ _ (.slice none 0 0) [] (.slice none 0 0) [] [] []) := ⟨⟨blk_below (blk_below B1.out HB1.out) hb, blk_below (blk_below B2.out HB1.out) hb, blk_below (blk_below B3.out HB1.out) hb, HM4.out.below hb, hM5, Kd.R_nil _ _ _ _ _, Kd.R_nil _ _ _ _ _, below_step (below_step B0.out HB1.out) hb, GE138.out, by rw [Hm4.out]; exact HGE.out, by rw [hm]; have := HB1.out.size; have := HGE.out; omega, by have := HM4.out.lt; omega, NB132_138.out, NB133_138.out⟩⟩; clear hM5 hb hm HM4 HB1 Hm4 B1 B2 B3 B0 HGE; have hc14 : W2.cell? ⟨gb132, 4, none⟩ = some (.slice A0_4 l0_4.length c0_4) := (HST.out.cell1 4).trans rfl))
  go_loopw [30] (fun s wr => ∃ (i : Nat) (vL : Value), i ≤ l0_4.length ∧ s = .int .i64 i ∧ St w wr gb132 gb133 gb138 m4 m5 #[.int .i64 a0_0, .int .i64 a0_1, .int .i64 a0_2, .int .i64 a0_3, .slice A0_4 l0_4.length c0_4, .slice A0_5 l0_5.length c0_5] #[.int .i64 0, .int .i64 0, .int .i64 0, .int .i64 0, .slice none 0 0, .slice none 0 0] #[.int .i64 t134, .int .i64 t135, .int .i64 t136, .int .i64 t137, vL, .slice none 0 0] vL (l0_4.take i) (.slice none 0 0) [] ((l0_4.take i).map (·.f0)) []) (fun s _ => l0_4.length - (intOf s).toNat)
  case atStart => exact ⟨0, _, Nat.zero_le _, rfl, HST.out⟩
  case round =>
    clear hc14 HST
    obtain ⟨i, vL, hi, rfl, hst⟩ := hrel
    have HS := Aside0.mk hst
    clear hst
    by_cases hin : i < l0_4.length
    · have hl : decide ((i : Int) < (l0_4.length : Int)) = true := decide_eq_true (by omega)
      have hl0 : (0 ≤ (i : Int)) = True := eq_true (by omega)
      have hl1 : ((i : Int) < (l0_4.length : Int)) = True := eq_true (by omega)
      obtain ⟨ad, e, hx0, hx1, hx2, hx3, hx4, hx5, hx6, hx7, hx8, hx9⟩ := at_T31 (Kd.C_below HR0_4.out HS.out.hB) (i : Int) (by omega) (by omega)
      obtain ⟨x, hx⟩ : ∃ x, x = rd_T31 l0_4 (i : Int) := ⟨_, rfl⟩
      rw [← hx] at hx0 hx1 hx2 hx3 hx4 hx5 hx6 hx7 hx8 hx9
      have Hx := Aside0.mk (show l0_4.take (i + 1) = l0_4.take i ++ [x] by rw [take_snoc hin, hx]; rfl)
      have Hn := Aside0.mk (show x.f0.size ≤ maxLen by rw [hx]; exact N4.out.2 _ (by unfold rd_T31; rw [Int.toNat_natCast, List.getD_eq_getElem?_getD, List.getElem?_eq_getElem hin]; exact List.getElem_mem hin))
      obtain ⟨M, hM⟩ : ∃ M, M = (l0_4.take i).map (·.f0) := ⟨_, rfl⟩
      rw [← hM] at HS
      have HM := Aside0.mk hM
      have Hm := Aside0.mk (show M.length < 1000000 by have := N4.out.1; rw [hM, List.length_map, List.length_take]; omega)
      clear hM
      have Hin := Aside0.mk hin
      have Hlen := Aside0.mk (show (l0_4.take i ++ [x]).length = i + 1 by simp; omega)
      have Hi := Aside0.mk (show (l0_4.take i).length < 1000 by have := N4.out.1; rw [List.length_take]; omega)
      clear hx
      subst e
      rw [Int.toNat_natCast] at hx0 hx1 hx2 hx3 hx4 hx5 hx6 hx7 hx8 hx9
      go_wp2_with (first | ((with_reducible refine gate_dst (N := 34) rfl ?_); refine new_world ?_; intro W1 hbox hb; have HS1 := Aside0.mk (HS.out.below hb); have B7 := Aside0.mk hbox; have Hlt := Aside0.mk (blk_lt HS.out.b3); have Hv7 := Aside0.mk (show some wr.heap.size ≠ vL.ownBlock from fun he => Nat.lt_irrefl _ (Kd.R_lt HS.out.hL _ he.symm)); have hn1 : gb138 ≠ wr.heap.size := Nat.ne_of_lt Hlt.out; have hn2 : wr.heap.size ≠ gb138 := Nat.ne_of_gt Hlt.out; clear hb hbox HS hx0 hx1 hx2 hx3 hx4 hx5 hx6 hx7 hx8 hx9; have hz0 : W1.cell? ⟨wr.heap.size, 0, none⟩ = some (.string x.f0) := (blk_cell B7.out 0).trans rfl; have hz1 : W1.cell? ⟨wr.heap.size, 1, none⟩ = some (.int .i64 x.f1) := (blk_cell B7.out 1).trans rfl; have hz2 : W1.cell? ⟨wr.heap.size, 2, none⟩ = some (.int .i64 x.f2) := (blk_cell B7.out 2).trans rfl; have hz3 : W1.cell? ⟨wr.heap.size, 3, none⟩ = some (.int .i64 x.f3) := (blk_cell B7.out 3).trans rfl; have hz4 : W1.cell? ⟨wr.heap.size, 4, none⟩ = some (.int .i64 x.f4) := (blk_cell B7.out 4).trans rfl; have hz5 : W1.cell? ⟨wr.heap.size, 5, none⟩ = some (.int .i64 x.f5) := (blk_cell B7.out 5).trans rfl; have hz6 : W1.cell? ⟨wr.heap.size, 6, none⟩ = some (.int .i64 x.f6) := (blk_cell B7.out 6).trans rfl; have hz7 : W1.cell? ⟨wr.heap.size, 7, none⟩ = some (.int .i64 x.f7) := (blk_cell B7.out 7).trans rfl; have hz8 : W1.cell? ⟨wr.heap.size, 8, none⟩ = some (.int .i64 x.f8) := (blk_cell B7.out 8).trans rfl; have hz9 : W1.cell? ⟨wr.heap.size, 9, none⟩ = some (.int .i64 x.f9) := (blk_cell B7.out 9).trans rfl; have hc34 : W1.cell? ⟨gb138, 4, none⟩ = some vL := (HS1.out.cell3 4).trans rfl) | ((with_reducible refine gate_builtin (b := .append) (xs := #[.tmp 35, .tmp 37]) rfl ?_); at_builtin; refine Kd.R_append k31 (w0 := w) w.heap.size rfl (.tmp 35) (.tmp 37) 22 31 (.agg #[(.string ⟨#[]⟩), (.int .i64 0), (.int .i64 0), (.int .i64 0), (.int .i64 0), (.int .i64 0), (.int .i64 0), (.int .i64 0), (.int .i64 0), (.int .i64 0)]) 88 rfl Try.underlying22 info31 rfl (by decide) (by omega) vL (l0_4.take i) x [.string x.f0, .int .i64 x.f1, .int .i64 x.f2, .int .i64 x.f3, .int .i64 x.f4, .int .i64 x.f5, .int .i64 x.f6, .int .i64 x.f7, .int .i64 x.f8, .int .i64 x.f9] (fun _ => True) (fun _ => False) rfl (by first | (go_simp; done) | (go_simp; rfl)) ?aP (fun _ hk => hk.elim) (fun _ _ => trivial) ?aO ?aB ?aS ?aL ?_; (case aP => exact k31_mkM _ _ _ x); (case aO => exact HS1.out.hL); (case aB => exact HS1.out.hB); (case aS => exact HS1.out.hB.size); (case aL => have := Hi.out; omega); intro v1 W3 ho hb hg hat; obtain ⟨A1, c1, e1⟩ := Kd.R_slice ho; rw [Hlen.out] at e1; subst e1; have HS3 := Aside0.mk (HS1.out.addL ho hb hg); have B73 := Aside0.mk (blk_grown B7.out hg Hv7.out); clear ho hb hg hat hz0 hz1 hz2 hz3 hz4 hz5 hz6 hz7 hz8 hz9 hc34; have hc34 : W3.cell? ⟨gb138, 4, none⟩ = some vL := (HS3.out.cell3 4).trans rfl; have hf34 := HS3.out.froz3 4; have hz0 : W3.cell? ⟨wr.heap.size, 0, none⟩ = some (.string x.f0) := (blk_cell B73.out 0).trans rfl) | (at_lookup; refine look_event (HS3.out.set3 4 _).h4 rfl _ _ rfl rfl x.f0 rfl Hn.out ?_) | (at_mapUpdate; refine put_event (HS3.out.set3 4 _).h4 Hm.out rfl _ _ _ rfl rfl x.f0 rfl Hn.out rfl ?_; intro W4 hm hg; have HS4 := Aside0.mk ((HS3.out.set3 4 _).map4 hm hg); clear hm hg))
      have h1 := N4.out.1
      have h2 := Hin.out
      go_roundw
      case rel => exact ⟨i + 1, _, Hin.out, rise Hin.out h1, by rw [Hx.out, List.map_append, ← HM.out]; exact HS4.out⟩
      case measure => exact fall Hin.out h1
    · have e : i = l0_4.length := by omega
      subst e
      rw [List.take_length] at HS
      have hl : decide ((l0_4.length : Int) < (l0_4.length : Int)) = false := decide_eq_false (by omega)
      have hc15 : wr.cell? ⟨gb132, 5, none⟩ = some (.slice A0_5 l0_5.length c0_5) := (HS.out.cell1 5).trans rfl
      go_wp2_with fail
      go_loopw [49] (fun s wr => ∃ (i : Nat) (vS : Value), i ≤ l0_5.length ∧ s = .int .i64 i ∧ St w wr gb132 gb133 gb138 m4 m5 #[.int .i64 a0_0, .int .i64 a0_1, .int .i64 a0_2, .int .i64 a0_3, .slice A0_4 l0_4.length c0_4, .slice A0_5 l0_5.length c0_5] #[.int .i64 0, .int .i64 0, .int .i64 0, .int .i64 0, .slice none 0 0, .slice none 0 0] #[.int .i64 t134, .int .i64 t135, .int .i64 t136, .int .i64 t137, vL, vS] vL l0_4 vS (l0_5.take i) (l0_4.map (·.f0)) ((l0_5.take i).map (·.f0))) (fun s _ => l0_5.length - (intOf s).toNat)
      case atStart => exact ⟨0, _, Nat.zero_le _, rfl, HS.out⟩
      case round =>
        clear hc15 HS
        obtain ⟨i, vS, hi, rfl, hst⟩ := hrel
        have HS := Aside0.mk hst
        clear hst
        by_cases hin : i < l0_5.length
        · have hl : decide ((i : Int) < (l0_5.length : Int)) = true := decide_eq_true (by omega)
          have hl0 : (0 ≤ (i : Int)) = True := eq_true (by omega)
          have hl1 : ((i : Int) < (l0_5.length : Int)) = True := eq_true (by omega)
          obtain ⟨ad, A4_, c4_, e, hx0, hx1, hx2, hx3, hx4, hle, hC⟩ := at_T34 (Kd.C_below HR0_5.out HS.out.hB) (i : Int) (by omega) (by omega)
          obtain ⟨x, hx⟩ : ∃ x, x = rd_T34 l0_5 (i : Int) := ⟨_, rfl⟩
          rw [← hx] at hx0 hx1 hx2 hx3 hx4 hle hC
          have HCx := Aside0.mk hC
          have Hle := Aside0.mk hle
          have Hx := Aside0.mk (show l0_5.take (i + 1) = l0_5.take i ++ [x] by rw [take_snoc34 hin, hx]; rfl)
          have hmem : x ∈ l0_5 := by rw [hx]; unfold rd_T34; rw [Int.toNat_natCast, List.getD_eq_getElem?_getD, List.getElem?_eq_getElem hin]; exact List.getElem_mem hin
          have Hn := Aside0.mk (N5.out.2 x hmem)
          have Hsch := Aside0.mk (NS.out x hmem)
          obtain ⟨M, hM⟩ : ∃ M, M = (l0_5.take i).map (·.f0) := ⟨_, rfl⟩
          rw [← hM] at HS
          have HM := Aside0.mk hM
          have Hm := Aside0.mk (show M.length < 1000000 by have := N5.out.1; rw [hM, List.length_map, List.length_take]; omega)
          have Hin := Aside0.mk hin
          have Hlen := Aside0.mk (show (l0_5.take i ++ [x]).length = i + 1 by simp; omega)
          have Hi := Aside0.mk (show (l0_5.take i).length < 1000 by have := N5.out.1; rw [List.length_take]; omega)
          clear hx hC hle hM hmem
          subst e
          rw [Int.toNat_natCast] at hx0 hx1 hx2 hx3 hx4
          go_wp2_with fail
          have HS1 := Aside0.mk (HS.out.below (below_alloc (Below.refl _ _) (.cells #[.string x.f0, .string x.f1, .int .i64 x.f2, .int .i64 x.f3, .slice A4_ x.f4.length c4_] 34)))
          have B91 := Aside0.mk (blk_new wr (.cells #[.string x.f0, .string x.f1, .int .i64 x.f2, .int .i64 x.f3, .slice A4_ x.f4.length c4_] 34))
          have HC1 := Aside0.mk (Kd.C_alloc HCx.out (.cells #[.string x.f0, .string x.f1, .int .i64 x.f2, .int .i64 x.f3, .slice A4_ x.f4.length c4_] 34))
          have Hlt := Aside0.mk (blk_lt HS.out.b3)
          have Hv9 := Aside0.mk (show some wr.heap.size ≠ vS.ownBlock from fun he => Nat.lt_irrefl _ (Kd.R_lt HS.out.hS _ he.symm))
          clear hx0 hx1 hx2 hx3 hx4 HS HCx
          generalize wr.alloc (.cells #[.string x.f0, .string x.f1, .int .i64 x.f2, .int .i64 x.f3, .slice A4_ x.f4.length c4_] 34) = W1 at HS1 B91 HC1 ⊢
          refine start_ (n := 8) (S := fun w' => w'.cell? ⟨gb138, 5, none⟩ = some vS ∧ w'.cell? ⟨wr.heap.size, 0, none⟩ = some (.string x.f0) ∧ w'.cell? ⟨wr.heap.size, 1, none⟩ = some (.string x.f1) ∧ w'.cell? ⟨wr.heap.size, 2, none⟩ = some (.int .i64 x.f2) ∧ w'.cell? ⟨wr.heap.size, 3, none⟩ = some (.int .i64 x.f3) ∧ w'.cell? ⟨wr.heap.size, 4, none⟩ = some (.slice A4_ x.f4.length c4_)) (ds := [7]) #[false, false, false, false, false, false, false, false] (by kernel_rfl) rfl rfl ⟨(HS1.out.cell3 5).trans rfl, (blk_cell B91.out 0).trans rfl, (blk_cell B91.out 1).trans rfl, (blk_cell B91.out 2).trans rfl, (blk_cell B91.out 3).trans rfl, (blk_cell B91.out 4).trans rfl⟩ (fun hHeld => ?_); refine with_tabW fill_Fill.tab12 fill_Fill.bits12 (fun HT_ HW_ => ?_)
          have HS2 := Aside0.mk (HS1.out.below (below_drew (Below.refl _ _)))
          have B92 := Aside0.mk (blk_drew B91.out)
          have HC2 := Aside0.mk (Kd.C_drew HC1.out)
          clear HS1 B91 HC1
          generalize W1.drew = W2 at HS2 B92 HC2 hHeld ⊢
          refine pure_ (i := 0) (N := some 53) (v := ?_) (a' := ?_) #[true, false, false, false, false, false, false, false] rfl rfl (any_of HT_.out (by kernel_rfl)) (fun _ _ _ h => h) (Or.inl ⟨by rfl, ?_⟩) ?_ ?_
          rotate_left
          · intro w'
            go_simp
            with_reducible rfl
          rotate_left
          · simp only [Act.put, List.setIfInBounds_toArray, List.set_cons_zero, List.set_cons_succ, i64_w, i32_w]
            rfl
          refine take_ (i := 1) (N := some 54) (v := ?_) (a' := ?_) #[true, true, false, false, false, false, false, false] rfl rfl (take_ofW HT_.out HW_.out (by kernel_rfl)) (fun _ _ _ h => h) (Or.inl ⟨by rfl, ?_⟩) hHeld ?_ ?_
          rotate_left
          · rintro w' ⟨s0, s1, s2, s3, s4, s5⟩
            go_simp
            with_reducible rfl
          rotate_left
          · simp only [Act.put, List.setIfInBounds_toArray, List.set_cons_zero, List.set_cons_succ, i64_w, i32_w]
            rfl
          refine take_ (i := 2) (N := some 55) (v := ?_) (a' := ?_) #[true, true, true, false, false, false, false, false] rfl rfl (take_ofW HT_.out HW_.out (by kernel_rfl)) (fun _ _ _ h => h) (Or.inl ⟨by rfl, ?_⟩) hHeld ?_ ?_
          rotate_left
          · rintro w' ⟨s0, s1, s2, s3, s4, s5⟩
            go_simp
            with_reducible rfl
          rotate_left
          · simp only [Act.put, List.setIfInBounds_toArray, List.set_cons_zero, List.set_cons_succ, i64_w, i32_w]
            rfl
          refine one_ (i := 3) (N := some 56) #[true, true, true, true, false, false, false, false] rfl rfl (one_of HT_.out (by kernel_rfl)) (by decide) (fun K hK => ?_)
          refine goes_ Try.func28 (by kernel_rfl) rfl #[.agg #[.string x.f0, .string x.f1, .int .i64 x.f2, .int .i64 x.f3, .slice A4_ x.f4.length c4_]] (by rfl) rfl rfl (by (try simp only [List.map_toArray, List.map_cons, List.map_nil]); first | done | rfl) ?_
          refine (Hsch.out A4_ c4_ W2 HC2.out Hle.out).mono ?_
          rintro e W3 ⟨v4, rfl, ho0, hb⟩
          refine ⟨_, rfl, ?_⟩
          have HS3 := Aside0.mk (HS2.out.below hb)
          have B93 := Aside0.mk (blk_below B92.out hb)
          have HO := Aside0.mk (Kd.R_lower ho0 HS2.out.size)
          clear HS2 B92 HC2 ho0 hb
          obtain ⟨Ao, co, eo⟩ := Kd.R_slice HO.out
          subst eo
          refine hK.out _ _ ⟨(HS3.out.cell3 5).trans rfl, (blk_cell B93.out 0).trans rfl, (blk_cell B93.out 1).trans rfl, (blk_cell B93.out 2).trans rfl, (blk_cell B93.out 3).trans rfl, (blk_cell B93.out 4).trans rfl⟩ (fun hHeld => ?_)
          clear hK K
          refine norm_ (a' := ?_) ?_ ?_
          rotate_left
          · show Act.put _ (some 56) _ = _
            simp only [Act.put, List.setIfInBounds_toArray, List.set_cons_zero, List.set_cons_succ, i64_w, i32_w]
            rfl
          refine one_ (i := 4) (N := some 57) #[true, true, true, true, true, false, false, false] rfl rfl (one_of HT_.out (by kernel_rfl)) (by decide) (fun K hK => ?_)
          refine value_ (w1 := ?_) (v := ?_) (by rfl) rfl ?_ ?_
          rotate_left 2
          · go_simp
            constructor
            · rfl
            · rfl
          have HSa := Aside0.mk (fun o => HS3.out.below (below_alloc (Below.refl _ _) o))
          refine hK.out _ _ ⟨((HSa.out _).cell3 5).trans rfl, (blk_cell (blk_alloc B93.out _) 0).trans rfl, (blk_cell (blk_alloc B93.out _) 1).trans rfl, (blk_cell (blk_alloc B93.out _) 2).trans rfl, (blk_cell (blk_alloc B93.out _) 3).trans rfl, (blk_cell (blk_alloc B93.out _) 4).trans rfl⟩ (fun hHeld => ?_)
          clear hK K HSa
          refine norm_ (a' := ?_) ?_ ?_
          rotate_left
          · show Act.put _ (some 57) _ = _
            simp only [Act.put, List.setIfInBounds_toArray, List.set_cons_zero, List.set_cons_succ, i64_w, i32_w]
            rfl
          refine one_ (i := 5) (N := some 58) #[true, true, true, true, true, true, false, false] rfl rfl (one_of HT_.out (by kernel_rfl)) (by decide) (fun K hK => ?_)
          refine Kd.R_append_step k34 (w0 := w) w.heap.size (by rfl) (.tmp 54) (.tmp 57) 23 34 (.agg #[(.string ⟨#[]⟩), (.string ⟨#[]⟩), (.int .i64 0), (.int .i64 0), (.slice none 0 0)]) 72 rfl Try.underlying23 info34 rfl (by decide) (by omega) vS (l0_5.take i) x [.string x.f0, .string x.f1, .int .i64 x.f2, .int .i64 x.f3, .slice Ao x.f4.length co] (fun _ => True) (fun k_ => True ∧ some k_ ≠ (vS : Value).ownBlock) rfl rfl ?aP (fun _ hk => hk) (fun _ _ => trivial) ?aO ?aB ?aS ?aL ?_
          (case aP => exact k34_mkM _ _ _ x (Kd.R_apart' HO.out (Kd.R_typed HS3.out.hS) (by decide)))
          (case aO => exact HS3.out.hS)
          (case aB => exact HS3.out.hB)
          (case aS => exact HS3.out.size)
          (case aL => have := Hi.out; omega)
          intro v1 W4 ho hb hg hat
          obtain ⟨A1, c1, e1⟩ := Kd.R_slice ho
          rw [Hlen.out] at e1
          subst e1
          have HS4 := Aside0.mk (HS3.out.addS ho hb hg)
          have B94 := Aside0.mk (blk_grown B93.out hg Hv9.out)
          clear ho hb hg hat HS3 B93 HO
          refine hK.out _ _ ⟨(HS4.out.cell3 5).trans rfl, (blk_cell B94.out 0).trans rfl, (blk_cell B94.out 1).trans rfl, (blk_cell B94.out 2).trans rfl, (blk_cell B94.out 3).trans rfl, (blk_cell B94.out 4).trans rfl⟩ (fun hHeld => ?_)
          clear hK K
          refine norm_ (a' := ?_) ?_ ?_
          rotate_left
          · show Act.put _ (some 58) _ = _
            simp only [Act.put, List.setIfInBounds_toArray, List.set_cons_zero, List.set_cons_succ, i64_w, i32_w]
            rfl
          refine pure_ (i := 6) (N := some 59) (v := ?_) (a' := ?_) #[true, true, true, true, true, true, true, false] rfl rfl (any_of HT_.out (by kernel_rfl)) (fun _ _ _ h => h) (Or.inl ⟨by rfl, ?_⟩) ?_ ?_
          rotate_left
          · intro w'
            go_simp
            with_reducible rfl
          rotate_left
          · simp only [Act.put, List.setIfInBounds_toArray, List.set_cons_zero, List.set_cons_succ, i64_w, i32_w]
            rfl
          refine last_ (i := 7) (N := none) #[true, true, true, true, true, true, true, true] rfl rfl (one_of HT_.out (by kernel_rfl)) (by decide) (fun K hK => ?_)
          have hs71 : W4.cell? ⟨gb138, 5, none⟩ = some vS := (HS4.out.cell3 5).trans rfl
          have hfs71 := HS4.out.froz3 5
          refine skip_ (w1 := ?_) (by rfl) rfl ?_ ?_
          rotate_left
          · go_simp
            rfl
          refine hK.out _ _ ?_
          clear hK K
          refine done_ (done_of HT_.out (by kernel_rfl)) ?_
          clear hHeld hs71 hfs71 HT_ HW_
          try clear hHeld
          try clear hHeld
          have hn1 : gb138 ≠ wr.heap.size := Nat.ne_of_lt Hlt.out
          have hn2 : wr.heap.size ≠ gb138 := Nat.ne_of_gt Hlt.out
          have hz0 : W4.cell? ⟨wr.heap.size, 0, none⟩ = some (.string x.f0) := (blk_cell B94.out 0).trans rfl
          go_wp2_with (first | (at_lookup; refine look_event (HS4.out.set3 5 _).h5 rfl _ _ rfl rfl x.f0 rfl Hn.out ?_) | (at_mapUpdate; refine put_event (HS4.out.set3 5 _).h5 Hm.out rfl _ _ _ rfl rfl x.f0 rfl Hn.out rfl ?_; intro W5 hm hg; have HS5 := Aside0.mk ((HS4.out.set3 5 _).map5 hm hg); clear hm hg))
          have h1 := N5.out.1
          have h2 := Hin.out
          go_roundw
          case rel => exact ⟨i + 1, _, Hin.out, rise Hin.out h1, by rw [Hx.out, List.map_append, ← HM.out]; exact HS5.out⟩
          case measure => exact fall Hin.out h1
        · have e : i = l0_5.length := by omega
          subst e
          rw [List.take_length, ← HM4.out, ← HM5.out] at HS
          have hl : decide ((l0_5.length : Int) < (l0_5.length : Int)) = false := decide_eq_false (by omega)
          have hs6 : exS.size ≤ maxLen := by unfold maxLen; show 6 ≤ _; omega
          have hs9 : caS.size ≤ maxLen := by unfold maxLen; show 9 ≤ _; omega
          have Hs6 := Aside0.mk hs6
          have Hs9 := Aside0.mk hs9
          clear hs6 hs9
          go_upto_if 68 with (first | (at_lookup; refine look_event HS.out.h4 rfl _ _ rfl rfl exS rfl Hs6.out ?_))
          go_cut [] (fun wc => ∃ vL : Value, St w wc gb132 gb133 gb138 m4 m5 #[.int .i64 a0_0, .int .i64 a0_1, .int .i64 a0_2, .int .i64 a0_3, .slice A0_4 l0_4.length c0_4, .slice A0_5 l0_5.length c0_5] #[.int .i64 0, .int .i64 0, .int .i64 0, .int .i64 0, .slice none 0 0, .slice none 0 0] #[.int .i64 t134, .int .i64 t135, .int .i64 t136, .int .i64 t137, vL, vS] vL L1 vS l0_5 M4 M5)
          case first =>
            by_cases hc : cnt exS M4 = 0
            · have hb : (cnt exS M4 == 0) = true := beq_iff_eq.mpr hc
              have Hc := Aside0.mk hc
              clear hc
              have hc34 := (HS.out.cell3 4).trans (rfl : _ = some vL)
              have hf34 := HS.out.froz3 4
              first | rw [hb] | skip
              go_wp2_with (first | ((with_reducible refine gate_builtin (b := .append) (xs := #[.tmp 70, .tmp 72]) rfl ?_); at_builtin; refine Kd.R_append k31 (w0 := w) w.heap.size rfl (.tmp 70) (.tmp 72) 22 31 (.agg #[(.string ⟨#[]⟩), (.int .i64 0), (.int .i64 0), (.int .i64 0), (.int .i64 0), (.int .i64 0), (.int .i64 0), (.int .i64 0), (.int .i64 0), (.int .i64 0)]) 88 rfl Try.underlying22 info31 rfl (by decide) (by omega) vL l0_4 exL [.string ⟨#[101, 120, 101, 109, 112, 116]⟩, .int .i64 1, .int .i64 0, .int .i64 0, .int .i64 0, .int .i64 0, .int .i64 0, .int .i64 0, .int .i64 0, .int .i64 0] (fun _ => True) (fun _ => False) rfl (by first | (go_simp; done) | (go_simp; rfl)) ?aP (fun _ hk => hk.elim) (fun _ _ => trivial) ?aO ?aB ?aS ?aL ?_; (case aP => exact k31_mkM _ _ _ exL); (case aO => exact HS.out.hL); (case aB => exact HS.out.hB); (case aS => exact HS.out.size); (case aL => have := N4.out.1; omega); intro v1 W3 ho hb hg hat; obtain ⟨A1, c1, e1⟩ := Kd.R_slice ho; rw [show (l0_4 ++ [exL]).length = (l0_4).length + 1 by simp] at e1; subst e1; have HS3 := Aside0.mk (HS.out.addL ho hb hg); clear ho hb hg hat hc34 hf34; have hc34 := (HS3.out.cell3 4).trans (rfl : _ = some vL); have hf34 := HS3.out.froz3 4))
              go_meet
              case rel => exact ⟨_, by rw [HL1.out, if_pos Hc.out]; exact HS3.out.set3 4 _⟩
            · have hb : (cnt exS M4 == 0) = false := beq_eq_false_iff_ne.mpr hc
              have Hc := Aside0.mk hc
              clear hc
              first | rw [hb] | skip
              go_wp2
              go_meet
              case rel => exact ⟨vL, by rw [HL1.out, if_neg Hc.out]; exact HS.out⟩
          case rest =>
            clear HS
            obtain ⟨vL, hst⟩ := hcut
            have HS := Aside0.mk hst
            clear hst
            go_upto_if 77 with (first | (at_lookup; refine look_event HS.out.h4 rfl _ _ rfl rfl caS rfl Hs9.out ?_))
            go_cut [] (fun wc => ∃ vL : Value, St w wc gb132 gb133 gb138 m4 m5 #[.int .i64 a0_0, .int .i64 a0_1, .int .i64 a0_2, .int .i64 a0_3, .slice A0_4 l0_4.length c0_4, .slice A0_5 l0_5.length c0_5] #[.int .i64 0, .int .i64 0, .int .i64 0, .int .i64 0, .slice none 0 0, .slice none 0 0] #[.int .i64 t134, .int .i64 t135, .int .i64 t136, .int .i64 t137, vL, vS] vL L2 vS l0_5 M4 M5)
            case first =>
              by_cases hc : cnt caS M4 = 0
              · have hb : (cnt caS M4 == 0) = true := beq_iff_eq.mpr hc
                have Hc := Aside0.mk hc
                clear hc
                have hc34 := (HS.out.cell3 4).trans (rfl : _ = some vL)
                have hf34 := HS.out.froz3 4
                first | rw [hb] | skip
                go_wp2_with (first | ((with_reducible refine gate_builtin (b := .append) (xs := #[.tmp 79, .tmp 81]) rfl ?_); at_builtin; refine Kd.R_append k31 (w0 := w) w.heap.size rfl (.tmp 79) (.tmp 81) 22 31 (.agg #[(.string ⟨#[]⟩), (.int .i64 0), (.int .i64 0), (.int .i64 0), (.int .i64 0), (.int .i64 0), (.int .i64 0), (.int .i64 0), (.int .i64 0), (.int .i64 0)]) 88 rfl Try.underlying22 info31 rfl (by decide) (by omega) vL L1 caL [.string ⟨#[99, 97, 116, 99, 104, 45, 97, 108, 108]⟩, .int .i64 2, .int .i64 5, .int .i64 0, .int .i64 (-1), .int .i64 0, .int .i64 0, .int .i64 0, .int .i64 0, .int .i64 0] (fun _ => True) (fun _ => False) rfl (by first | (go_simp; done) | (go_simp; rfl)) ?aP (fun _ hk => hk.elim) (fun _ _ => trivial) ?aO ?aB ?aS ?aL ?_; (case aP => exact k31_mkM _ _ _ caL); (case aO => exact HS.out.hL); (case aB => exact HS.out.hB); (case aS => exact HS.out.size); (case aL => have := HN.out.1; omega); intro v1 W3 ho hb hg hat; obtain ⟨A1, c1, e1⟩ := Kd.R_slice ho; rw [show (L1 ++ [caL]).length = (L1).length + 1 by simp] at e1; subst e1; have HS3 := Aside0.mk (HS.out.addL ho hb hg); clear ho hb hg hat hc34 hf34; have hc34 := (HS3.out.cell3 4).trans (rfl : _ = some vL); have hf34 := HS3.out.froz3 4))
                go_meet
                case rel => exact ⟨_, by rw [HL2.out, if_pos Hc.out]; exact HS3.out.set3 4 _⟩
              · have hb : (cnt caS M4 == 0) = false := beq_eq_false_iff_ne.mpr hc
                have Hc := Aside0.mk hc
                clear hc
                first | rw [hb] | skip
                go_wp2
                go_meet
                case rel => exact ⟨vL, by rw [HL2.out, if_neg Hc.out]; exact HS.out⟩
            case rest =>
              clear HS
              obtain ⟨vL, hst⟩ := hcut
              have HS := Aside0.mk hst
              clear hst
              go_upto_if 86 with (first | (at_lookup; refine look_event HS.out.h5 rfl _ _ rfl rfl exS rfl Hs6.out ?_))
              go_cut [] (fun wc => ∃ vS : Value, St w wc gb132 gb133 gb138 m4 m5 #[.int .i64 a0_0, .int .i64 a0_1, .int .i64 a0_2, .int .i64 a0_3, .slice A0_4 l0_4.length c0_4, .slice A0_5 l0_5.length c0_5] #[.int .i64 0, .int .i64 0, .int .i64 0, .int .i64 0, .slice none 0 0, .slice none 0 0] #[.int .i64 t134, .int .i64 t135, .int .i64 t136, .int .i64 t137, vL, vS] vL L2 vS S1 M4 M5)
              case first =>
                by_cases hc : cnt exS M5 = 0
                · have hb : (cnt exS M5 == 0) = true := beq_iff_eq.mpr hc
                  have Hc := Aside0.mk hc
                  clear hc
                  first | rw [hb] | skip
                  go_wp2_with ((with_reducible refine gate_dst (N := 87) rfl ?_); refine Kd.R_lit Kd.string (w0 := w) w.heap.size 9 ?hg (N := 87) ?hd (xs := [⟨#[115, 121, 115, 116, 101, 109, 58, 109, 97, 115, 116, 101, 114, 115]⟩]) (inner := [.string ⟨#[115, 121, 115, 116, 101, 109, 58, 109, 97, 115, 116, 101, 114, 115]⟩]) (ok := fun _ => True) (okp := fun _ => True) ?hr ?hp (fun _ hk => hk) trivial HS.out.hB HS.out.size (by simp) ?_; (case hd => rfl); (case hg => rfl); (case hr => first | (go_simp; done) | (go_simp; rfl)); (case hp => exact (Reps.one (show Kd.M Kd.string _ _ _ (⟨#[115, 121, 115, 116, 101, 109, 58, 109, 97, 115, 116, 101, 114, 115]⟩ : ByteArray) [.string ⟨#[115, 121, 115, 116, 101, 109, 58, 109, 97, 115, 116, 101, 114, 115]⟩] from rfl) (Reps.none _ _))); intro v1 w1 ho hb hg_ hnew_; have HSk1 := Aside0.mk (HS.out.below (Below.grown (Below.refl _ _) hg_ (Nat.le_refl _) (fun k hk => by cases hk))); have HO1 := Aside0.mk ho; clear hg_ hnew_ hb ho HS; obtain ⟨A1, c1, e1⟩ := Kd.R_slice HO1.out; replace e1 : v1 = .slice A1 1 c1 := e1; subst e1)
                  refine (fill_all.calls [⟨#[42]⟩] _ rfl).mono ?_
                  rintro e w2 ⟨v2, rfl, ho, hb⟩
                  have HSk2 := Aside0.mk (HSk1.out.below hb)
                  have HO2 := Aside0.mk (Kd.R_lower ho HSk1.out.size)
                  replace HO1 := Aside0.mk (Kd.R_below HO1.out hb)
                  clear ho hb HSk1
                  obtain ⟨A2, c2, e2⟩ := Kd.R_slice HO2.out
                  replace e2 : v2 = .slice A2 1 c2 := e2
                  subst e2
                  go_wp2_with fail
                  refine (fill_all.calls [⟨#[42]⟩] _ rfl).mono ?_
                  rintro e w3 ⟨v3, rfl, ho, hb⟩
                  have HSk3 := Aside0.mk (HSk2.out.below hb)
                  have HO3 := Aside0.mk (Kd.R_lower ho HSk2.out.size)
                  replace HO1 := Aside0.mk (Kd.R_below HO1.out hb)
                  replace HO2 := Aside0.mk (Kd.R_below HO2.out hb)
                  clear ho hb HSk2
                  obtain ⟨A3, c3, e3⟩ := Kd.R_slice HO3.out
                  replace e3 : v3 = .slice A3 1 c3 := e3
                  subst e3
                  go_wp2_with fail
                  refine (fill_all.calls [⟨#[42]⟩] _ rfl).mono ?_
                  rintro e w4 ⟨v4, rfl, ho, hb⟩
                  have HSk4 := Aside0.mk (HSk3.out.below hb)
                  have HO4 := Aside0.mk (Kd.R_lower ho HSk3.out.size)
                  replace HO1 := Aside0.mk (Kd.R_below HO1.out hb)
                  replace HO2 := Aside0.mk (Kd.R_below HO2.out hb)
                  replace HO3 := Aside0.mk (Kd.R_below HO3.out hb)
                  clear ho hb HSk3
                  obtain ⟨A4, c4, e4⟩ := Kd.R_slice HO4.out
                  replace e4 : v4 = .slice A4 1 c4 := e4
                  subst e4
                  go_wp2_with (first | ((with_reducible refine gate_dst (N := 92) rfl ?_); refine new_world ?_; intro W1 hbox hb; have HSx := Aside0.mk (HSk4.out.below hb); have B10 := Aside0.mk hbox; replace HO1 := Aside0.mk (Kd.R_below HO1.out hb); replace HO2 := Aside0.mk (Kd.R_below HO2.out hb); replace HO3 := Aside0.mk (Kd.R_below HO3.out hb); replace HO4 := Aside0.mk (Kd.R_below HO4.out hb); clear hb hbox HSk4; have hz0 : W1.cell? ⟨w4.heap.size, 0, none⟩ = some (.slice none 0 0) := (blk_cell B10.out 0).trans rfl; have hz1 : W1.cell? ⟨w4.heap.size, 1, none⟩ = some (.slice A1 1 c1) := (blk_cell B10.out 1).trans rfl; have hz2 : W1.cell? ⟨w4.heap.size, 2, none⟩ = some (.slice A2 1 c2) := (blk_cell B10.out 2).trans rfl; have hz3 : W1.cell? ⟨w4.heap.size, 3, none⟩ = some (.slice A3 1 c3) := (blk_cell B10.out 3).trans rfl; have hz4 : W1.cell? ⟨w4.heap.size, 4, none⟩ = some (.slice A4 1 c4) := (blk_cell B10.out 4).trans rfl; have hc35 : W1.cell? ⟨gb138, 5, none⟩ = some vS := (HSx.out.cell3 5).trans rfl) | ((with_reducible refine gate_dst (N := 95) rfl ?_); refine Kd.R_lit k37 (w0 := w) w.heap.size 37 ?hg (N := 95) ?hd (xs := [exR]) (inner := [(.slice none 0 0), (.slice A1 1 c1), (.slice A2 1 c2), (.slice A3 1 c3), (.slice A4 1 c4)]) (ok := fun _ => True) (okp := fun _ => True) ?hr ?hp (fun _ hk => hk) trivial HSx.out.hB HSx.out.size (by simp) ?_; (case hd => rfl); (case hg => rfl); (case hr => first | (go_simp; done) | (go_simp; rfl)); (case hp => exact Reps.c5 (k37_mkM _ _ _ exR (Kd.R_nil _ _ _ _ _) HO1.out HO2.out HO3.out HO4.out) (Reps.none _ _)); intro v5 w6 ho hb hg_ hnew_; have HSy := Aside0.mk (HSx.out.below (Below.grown (Below.refl _ _) hg_ (Nat.le_refl _) (fun k hk => by cases hk))); have HOr := Aside0.mk ho; clear hg_ hnew_ hb ho HSx hz0 hz1 hz2 hz3 hz4 hc35; obtain ⟨A5, c5, e5⟩ := Kd.R_slice HOr.out; replace e5 : v5 = .slice A5 1 c5 := e5; subst e5) | ((with_reducible refine gate_builtin (b := .append) (xs := #[.tmp 93, .tmp 97]) rfl ?_); at_builtin; refine Kd.R_append k34 (w0 := w) w.heap.size rfl (.tmp 93) (.tmp 97) 23 34 (.agg #[(.string ⟨#[]⟩), (.string ⟨#[]⟩), (.int .i64 0), (.int .i64 0), (.slice none 0 0)]) 72 rfl Try.underlying23 info34 rfl (by decide) (by omega) vS l0_5 exC [.string ⟨#[101, 120, 101, 109, 112, 116]⟩, .string ⟨#[101, 120, 101, 109, 112, 116]⟩, .int .i64 1, .int .i64 0, .slice A5 1 c5] (fun _ => True) (fun k_ => True ∧ some k_ ≠ (vS : Value).ownBlock) rfl (by first | (go_simp; done) | (go_simp; rfl)) ?aP (fun _ hk => hk) (fun _ _ => trivial) ?aO ?aB ?aS ?aL ?_; (case aP => exact k34_mkM _ _ _ exC (Kd.R_apart' HOr.out (Kd.R_typed HSy.out.hS) (by decide))); (case aO => exact HSy.out.hS); (case aB => exact HSy.out.hB); (case aS => exact HSy.out.size); (case aL => have := N5.out.1; omega); intro v6 W7 ho hb hg hat; obtain ⟨A6, c6, e6⟩ := Kd.R_slice ho; rw [show (l0_5 ++ [exC]).length = (l0_5).length + 1 by simp] at e6; subst e6; have HSz := Aside0.mk (HSy.out.addS ho hb hg); clear ho hb hg hat; have hc35 := (HSz.out.cell3 5).trans (rfl : _ = some vS); have hf35 := HSz.out.froz3 5))
                  go_meet
                  case rel => exact ⟨_, by rw [HS1_.out, if_pos Hc.out]; exact HSz.out.set3 5 _⟩
                · have hb : (cnt exS M5 == 0) = false := beq_eq_false_iff_ne.mpr hc
                  have Hc := Aside0.mk hc
                  clear hc
                  first | rw [hb] | skip
                  go_wp2
                  go_meet
                  case rel => exact ⟨vS, by rw [HS1_.out, if_neg Hc.out]; exact HS.out⟩
              case rest =>
                clear HS
                obtain ⟨vS, hst⟩ := hcut
                have HS := Aside0.mk hst
                clear hst
                go_upto_if 102 with (first | (at_lookup; refine look_event HS.out.h5 rfl _ _ rfl rfl caS rfl Hs9.out ?_))
                go_cut [] (fun wc => ∃ vS : Value, St w wc gb132 gb133 gb138 m4 m5 #[.int .i64 a0_0, .int .i64 a0_1, .int .i64 a0_2, .int .i64 a0_3, .slice A0_4 l0_4.length c0_4, .slice A0_5 l0_5.length c0_5] #[.int .i64 0, .int .i64 0, .int .i64 0, .int .i64 0, .slice none 0 0, .slice none 0 0] #[.int .i64 t134, .int .i64 t135, .int .i64 t136, .int .i64 t137, vL, vS] vL L2 vS S2 M4 M5)
                case first =>
                  by_cases hc : cnt caS M5 = 0
                  · have hb : (cnt caS M5 == 0) = true := beq_iff_eq.mpr hc
                    have Hc := Aside0.mk hc
                    clear hc
                    first | rw [hb] | skip
                    go_wp2_with fail
                    refine (fill_all.calls [⟨#[42]⟩] _ rfl).mono ?_
                    rintro e w1 ⟨v1, rfl, ho, hb⟩
                    have HSk1 := Aside0.mk (HS.out.below hb)
                    have HO1 := Aside0.mk (Kd.R_lower ho HS.out.size)
                    clear ho hb HS
                    obtain ⟨A1, c1, e1⟩ := Kd.R_slice HO1.out
                    replace e1 : v1 = .slice A1 1 c1 := e1
                    subst e1
                    go_wp2_with fail
                    refine (fill_all.calls [⟨#[42]⟩] _ rfl).mono ?_
                    rintro e w2 ⟨v2, rfl, ho, hb⟩
                    have HSk2 := Aside0.mk (HSk1.out.below hb)
                    have HO2 := Aside0.mk (Kd.R_lower ho HSk1.out.size)
                    replace HO1 := Aside0.mk (Kd.R_below HO1.out hb)
                    clear ho hb HSk1
                    obtain ⟨A2, c2, e2⟩ := Kd.R_slice HO2.out
                    replace e2 : v2 = .slice A2 1 c2 := e2
                    subst e2
                    go_wp2_with fail
                    refine (fill_all.calls [⟨#[42]⟩] _ rfl).mono ?_
                    rintro e w3 ⟨v3, rfl, ho, hb⟩
                    have HSk3 := Aside0.mk (HSk2.out.below hb)
                    have HO3 := Aside0.mk (Kd.R_lower ho HSk2.out.size)
                    replace HO1 := Aside0.mk (Kd.R_below HO1.out hb)
                    replace HO2 := Aside0.mk (Kd.R_below HO2.out hb)
                    clear ho hb HSk2
                    obtain ⟨A3, c3, e3⟩ := Kd.R_slice HO3.out
                    replace e3 : v3 = .slice A3 1 c3 := e3
                    subst e3
                    go_wp2_with fail
                    refine (fill_all.calls [⟨#[42]⟩] _ rfl).mono ?_
                    rintro e w4 ⟨v4, rfl, ho, hb⟩
                    have HSk4 := Aside0.mk (HSk3.out.below hb)
                    have HO4 := Aside0.mk (Kd.R_lower ho HSk3.out.size)
                    replace HO1 := Aside0.mk (Kd.R_below HO1.out hb)
                    replace HO2 := Aside0.mk (Kd.R_below HO2.out hb)
                    replace HO3 := Aside0.mk (Kd.R_below HO3.out hb)
                    clear ho hb HSk3
                    obtain ⟨A4, c4, e4⟩ := Kd.R_slice HO4.out
                    replace e4 : v4 = .slice A4 1 c4 := e4
                    subst e4
                    go_wp2_with (first | ((with_reducible refine gate_dst (N := 108) rfl ?_); refine new_world ?_; intro W1 hbox hb; have HSx := Aside0.mk (HSk4.out.below hb); have B10 := Aside0.mk hbox; replace HO1 := Aside0.mk (Kd.R_below HO1.out hb); replace HO2 := Aside0.mk (Kd.R_below HO2.out hb); replace HO3 := Aside0.mk (Kd.R_below HO3.out hb); replace HO4 := Aside0.mk (Kd.R_below HO4.out hb); clear hb hbox HSk4; have hz0 : W1.cell? ⟨w4.heap.size, 0, none⟩ = some (.slice A1 1 c1) := (blk_cell B10.out 0).trans rfl; have hz1 : W1.cell? ⟨w4.heap.size, 1, none⟩ = some (.slice none 0 0) := (blk_cell B10.out 1).trans rfl; have hz2 : W1.cell? ⟨w4.heap.size, 2, none⟩ = some (.slice A2 1 c2) := (blk_cell B10.out 2).trans rfl; have hz3 : W1.cell? ⟨w4.heap.size, 3, none⟩ = some (.slice A3 1 c3) := (blk_cell B10.out 3).trans rfl; have hz4 : W1.cell? ⟨w4.heap.size, 4, none⟩ = some (.slice A4 1 c4) := (blk_cell B10.out 4).trans rfl; have hc35 : W1.cell? ⟨gb138, 5, none⟩ = some vS := (HSx.out.cell3 5).trans rfl) | ((with_reducible refine gate_dst (N := 111) rfl ?_); refine Kd.R_lit k37 (w0 := w) w.heap.size 37 ?hg (N := 111) ?hd (xs := [caR]) (inner := [(.slice A1 1 c1), (.slice none 0 0), (.slice A2 1 c2), (.slice A3 1 c3), (.slice A4 1 c4)]) (ok := fun _ => True) (okp := fun _ => True) ?hr ?hp (fun _ hk => hk) trivial HSx.out.hB HSx.out.size (by simp) ?_; (case hd => rfl); (case hg => rfl); (case hr => first | (go_simp; done) | (go_simp; rfl)); (case hp => exact Reps.c5 (k37_mkM _ _ _ caR HO1.out (Kd.R_nil _ _ _ _ _) HO2.out HO3.out HO4.out) (Reps.none _ _)); intro v5 w6 ho hb hg_ hnew_; have HSy := Aside0.mk (HSx.out.below (Below.grown (Below.refl _ _) hg_ (Nat.le_refl _) (fun k hk => by cases hk))); have HOr := Aside0.mk ho; clear hg_ hnew_ hb ho HSx hz0 hz1 hz2 hz3 hz4 hc35; obtain ⟨A5, c5, e5⟩ := Kd.R_slice HOr.out; replace e5 : v5 = .slice A5 1 c5 := e5; subst e5) | ((with_reducible refine gate_builtin (b := .append) (xs := #[.tmp 109, .tmp 113]) rfl ?_); at_builtin; refine Kd.R_append k34 (w0 := w) w.heap.size rfl (.tmp 109) (.tmp 113) 23 34 (.agg #[(.string ⟨#[]⟩), (.string ⟨#[]⟩), (.int .i64 0), (.int .i64 0), (.slice none 0 0)]) 72 rfl Try.underlying23 info34 rfl (by decide) (by omega) vS S1 caC [.string ⟨#[99, 97, 116, 99, 104, 45, 97, 108, 108]⟩, .string ⟨#[99, 97, 116, 99, 104, 45, 97, 108, 108]⟩, .int .i64 10000, .int .i64 1, .slice A5 1 c5] (fun _ => True) (fun k_ => True ∧ some k_ ≠ (vS : Value).ownBlock) rfl (by first | (go_simp; done) | (go_simp; rfl)) ?aP (fun _ hk => hk) (fun _ _ => trivial) ?aO ?aB ?aS ?aL ?_; (case aP => exact k34_mkM _ _ _ caC (Kd.R_apart' HOr.out (Kd.R_typed HSy.out.hS) (by decide))); (case aO => exact HSy.out.hS); (case aB => exact HSy.out.hB); (case aS => exact HSy.out.size); (case aL => have := HN.out.2; omega); intro v6 W7 ho hb hg hat; obtain ⟨A6, c6, e6⟩ := Kd.R_slice ho; rw [show (S1 ++ [caC]).length = (S1).length + 1 by simp] at e6; subst e6; have HSz := Aside0.mk (HSy.out.addS ho hb hg); clear ho hb hg hat; have hc35 := (HSz.out.cell3 5).trans (rfl : _ = some vS); have hf35 := HSz.out.froz3 5))
                    go_meet
                    case rel => exact ⟨_, by rw [HS2_.out, if_pos Hc.out]; exact HSz.out.set3 5 _⟩
                  · have hb : (cnt caS M5 == 0) = false := beq_eq_false_iff_ne.mpr hc
                    have Hc := Aside0.mk hc
                    clear hc
                    first | rw [hb] | skip
                    go_wp2
                    go_meet
                    case rel => exact ⟨vS, by rw [HS2_.out, if_neg Hc.out]; exact HS.out⟩
                case rest =>
                  clear HS
                  obtain ⟨vS, hst⟩ := hcut
                  have HS := Aside0.mk hst
                  clear hst
                  obtain ⟨Ax, cx, ex⟩ := Kd.R_slice HS.out.hL
                  subst ex
                  obtain ⟨Ay, cy, ey⟩ := Kd.R_slice HS.out.hS
                  subst ey
                  have hc3_0 : wc.cell? ⟨gb138, 0, none⟩ = some (.int .i64 t134) := (HS.out.cell3 0).trans rfl
                  have hc2_0 : wc.cell? ⟨gb133, 0, none⟩ = some (.int .i64 0) := (blk_cell HS.out.b2 0).trans rfl
                  have hf2_0 := HS.out.froz2 0
                  have hc3_1 : wc.cell? ⟨gb138, 1, none⟩ = some (.int .i64 t135) := (HS.out.cell3 1).trans rfl
                  have hc2_1 : wc.cell? ⟨gb133, 1, none⟩ = some (.int .i64 0) := (blk_cell HS.out.b2 1).trans rfl
                  have hf2_1 := HS.out.froz2 1
                  have hc3_2 : wc.cell? ⟨gb138, 2, none⟩ = some (.int .i64 t136) := (HS.out.cell3 2).trans rfl
                  have hc2_2 : wc.cell? ⟨gb133, 2, none⟩ = some (.int .i64 0) := (blk_cell HS.out.b2 2).trans rfl
                  have hf2_2 := HS.out.froz2 2
                  have hc3_3 : wc.cell? ⟨gb138, 3, none⟩ = some (.int .i64 t137) := (HS.out.cell3 3).trans rfl
                  have hc2_3 : wc.cell? ⟨gb133, 3, none⟩ = some (.int .i64 0) := (blk_cell HS.out.b2 3).trans rfl
                  have hf2_3 := HS.out.froz2 3
                  have hc3_4 : wc.cell? ⟨gb138, 4, none⟩ = some (.slice Ax L2.length cx) := (HS.out.cell3 4).trans rfl
                  have hc2_4 : wc.cell? ⟨gb133, 4, none⟩ = some (.slice none 0 0) := (blk_cell HS.out.b2 4).trans rfl
                  have hf2_4 := HS.out.froz2 4
                  have hc3_5 : wc.cell? ⟨gb138, 5, none⟩ = some (.slice Ay S2.length cy) := (HS.out.cell3 5).trans rfl
                  have hc2_5 : wc.cell? ⟨gb133, 5, none⟩ = some (.slice none 0 0) := (blk_cell HS.out.b2 5).trans rfl
                  have hf2_5 := HS.out.froz2 5
                  have hn1 := NB133_138.out
                  have hn2 := NB138_133.out
                  have HF := Aside0.mk ((((((HS.out.set2 NB132_133.out GE133.out 0 (.int .i64 t134)).set2 NB132_133.out GE133.out 1 (.int .i64 t135)).set2 NB132_133.out GE133.out 2 (.int .i64 t136)).set2 NB132_133.out GE133.out 3 (.int .i64 t137)).set2 NB132_133.out GE133.out 4 (.slice Ax L2.length cx)).set2 NB132_133.out GE133.out 5 (.slice Ay S2.length cy))
                  go_wp2_with fail
                  refine bodyPost_ret (results_cell_row rfl _ _ gb133 25 #[.int .i64 t134, .int .i64 t135, .int .i64 t136, .int .i64 t137, .slice Ax L2.length cx, .slice Ay S2.length cy] (0, 0) _ rfl HF.out.b2 Try.underlying25 rfl (by kernel_rfl)) rfl ?_
                  exact ⟨_, _, rfl, HF.out.hL, HF.out.hS, HF.out.hB⟩
end Go.Proofs.Ytnbnaflhijfamaa.FillWalk
