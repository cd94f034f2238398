/- The walk of the law FillKeeps: it returns true for every configuration. -/
import Derived.Test.YtnbnaflhijfamaaFillKeepIs
namespace Go.Proofs.Ytnbnaflhijfamaa.FillLaw4
open Go.RowKit Go.Proofs.YtnbnaflhijfamaaW.PrintWords Go.Proofs.YtnbnaflhijfamaaW.PrintLast Go.Proofs.YtnbnaflhijfamaaW.PrintMore Go.Proofs.Ytnbnaflhijfamaa.PFillAll Go.Proofs.Ytnbnaflhijfamaa.FillMap Go.Proofs.Ytnbnaflhijfamaa.FillWalk Go.Proofs.Ytnbnaflhijfamaa.FillIs Go.Proofs.Ytnbnaflhijfamaa.FillAwake Go.Proofs.Ytnbnaflhijfamaa.FillSmall Go.Proofs.Ytnbnaflhijfamaa.FillLaws Go.Proofs.Ytnbnaflhijfamaa.FillKeepIs
set_option linter.unusedVariables false
set_option linter.unusedSimpArgs false
def T11 : Bool × List (List Nat × List Nat) := (true, [([], []), ([0], [0]), ([], []), ([2], [2]), ([], []), ([4], [4]), ([], []), ([6], [6]), ([0, 1], []), ([8, 1, 0, 1], [1, 8]), ([0, 1, 2, 3, 8, 9], []), ([10, 3, 9, 0, 1, 2, 3, 8, 9], [3, 10]), ([0, 1, 2, 3, 4, 5, 8, 9, 10, 11], []), ([12, 5, 11, 0, 1, 2, 3, 4, 5, 8, 9, 10, 11], [5, 12]), ([0, 1, 2, 3, 4, 5, 6, 7, 8, 9, 10, 11, 12, 13], []), ([14, 7, 13, 0, 1, 2, 3, 4, 5, 6, 7, 8, 9, 10, 11, 12, 13], [7, 14])])
def B11 : List Nat := [0, 1, 0, 4, 0, 16, 0, 64, 3, 259, 783, 1807, 3903, 7999, 16383, 32767]
theorem tab11 : rtab .any (opsOf Try.f4 11) = T11 := by kernel_rfl
theorem bits11 : waitsOk T11.2 B11 = true := by kernel_rfl
def T12 : Bool × List (List Nat × List Nat) := (true, [([], []), ([0], [0]), ([], []), ([2], [2]), ([3], [3]), ([1, 4], [1, 4]), ([], []), ([6], [6]), ([], []), ([8], [8]), ([9], [9]), ([7, 10], [7, 10]), ([0, 1, 2, 3, 4, 5], []), ([12, 5, 0, 1, 2, 3, 4, 5], [5, 12]), ([0, 1, 2, 3, 4, 5, 6, 7, 8, 9, 10, 11, 12, 13], []), ([14, 11, 13, 0, 1, 2, 3, 4, 5, 6, 7, 8, 9, 10, 11, 12, 13], [11, 14])])
def B12 : List Nat := [0, 1, 0, 4, 12, 31, 0, 64, 0, 256, 768, 1984, 63, 4159, 16383, 32767]
theorem tab12 : rtab .any (opsOf Try.f4 12) = T12 := by kernel_rfl
theorem bits12 : waitsOk T12.2 B12 = true := by kernel_rfl
def T13 : Bool × List (List Nat × List Nat) := (true, [([], []), ([], []), ([0, 1], [0, 1]), ([2, 2], [2]), ([3], [3]), ([4, 3, 3], [3, 4]), ([3], [3]), ([5, 6, 5, 3], [3, 5, 6]), ([3, 7], [3, 7]), ([8, 7], [8]), ([9], [9]), ([10, 9], [9, 10]), ([11, 9], [9, 11]), ([9, 12], [9, 12]), ([13, 9], [13]), ([14], [14]), ([15, 14], [14, 15]), ([16, 14], [14, 16]), ([14, 17], [14, 17]), ([18, 14], [18]), ([19], [19]), ([20, 19], [19, 20]), ([21, 19], [19, 21]), ([19, 22], [19, 22]), ([23, 19], [23]), ([24], [24]), ([25, 24], [24, 25]), ([26, 24], [24, 26]), ([24, 27], [24, 27]), ([28, 24, 0, 1, 2, 3, 4, 5, 6, 7, 8, 9, 10, 11, 12, 13, 14, 15, 16, 17, 18, 19, 20, 21, 22, 23, 24, 25, 26, 27, 28], [28])])
def B13 : List Nat := [0, 0, 3, 7, 15, 31, 15, 127, 255, 511, 1023, 2047, 4095, 8191, 16383, 32767, 65535, 131071, 262143, 524287, 1048575, 2097151, 4194303, 8388607, 16777215, 33554431, 67108863, 134217727, 268435455, 536870911]
theorem tab13 : rtab .any (opsOf Try.f4 13) = T13 := by kernel_rfl
theorem bits13 : waitsOk T13.2 B13 = true := by kernel_rfl
theorem I31 : Try.prog.info? 31 = some (Try.prog.info? 31).get! := by kernel_rfl
theorem I34 : Try.prog.info? 34 = some (Try.prog.info? 34).get! := by kernel_rfl
theorem told (a b : Int) : (a != 0) = false ∨ ((a != 0) = true ∧ (orV a b != a) = false) := by
  by_cases h : a = 0
  · exact .inl (by simp [h])
  · exact .inr ⟨by simp [h], by rw [orV_told b h]; simp⟩
set_option maxHeartbeats 8000000 in
set_option maxRecDepth 100000 in
theorem law (a0 a1 a2 a3 : Int) (A4 : Option Addr) (c4 : Nat) (L : List S31) (A5 : Option Addr) (c5 : Nat) (S : List S34) (w : World) (HC : Aside0 (CC w A4 c4 A5 c5 L S)) :
    Calls Try.prog 4 #[.agg #[.int .i64 a0, .int .i64 a1, .int .i64 a2, .int .i64 a3, .slice A4 L.length c4, .slice A5 S.length c5]] w fun e w' => e = .returned (.bool true) ∧ Below w.heap.size w w' := by
  go_enter Try.func4, Try.ntmps4
  go_wp2_with (first | ((with_reducible refine gate_dst (N := 1) rfl ?_); refine box_event ?hg (N := 1) ?hd (cs := #[.int .i64 a0, .int .i64 a1, .int .i64 a2, .int .i64 a3, .slice A4 L.length c4, .slice A5 S.length c5]) (t := 25) ?hr ?_; (case hd => rfl); (case hg => rfl); (case hr => first | (go_simp; done) | (go_simp; rfl)); intro g1 hg w1 hbox hb; have HK := Aside0.mk (show Ks w w1 [(g1, #[.int .i64 a0, .int .i64 a1, .int .i64 a2, .int .i64 a3, .slice A4 L.length c4, .slice A5 S.length c5], 25)] from ⟨fun p hp => by rw [List.mem_singleton.1 hp]; exact hbox, hb⟩); replace HC := Aside0.mk (HC.out.below hb); clear hb hbox hg))
  refine (awake_any _).mono ?_
  rintro e w2 ⟨rfl, hb⟩
  replace HK := Aside0.mk (HK.out.below hb)
  replace HC := Aside0.mk (HC.out.below hb)
  clear hb
  have h1_0 : w2.cell? ⟨g1, 0, none⟩ = some (.int .i64 a0) := (blk_cell HK.out.head 0).trans rfl
  have h1_1 : w2.cell? ⟨g1, 1, none⟩ = some (.int .i64 a1) := (blk_cell HK.out.head 1).trans rfl
  have h1_2 : w2.cell? ⟨g1, 2, none⟩ = some (.int .i64 a2) := (blk_cell HK.out.head 2).trans rfl
  have h1_3 : w2.cell? ⟨g1, 3, none⟩ = some (.int .i64 a3) := (blk_cell HK.out.head 3).trans rfl
  have h1_4 : w2.cell? ⟨g1, 4, none⟩ = some (.slice A4 L.length c4) := (blk_cell HK.out.head 4).trans rfl
  have h1_5 : w2.cell? ⟨g1, 5, none⟩ = some (.slice A5 S.length c5) := (blk_cell HK.out.head 5).trans rfl
  go_wp2_with fail
  refine (small_cc a0 a1 a2 a3 A4 c4 L A5 c5 S _ HC.out).mono ?_
  rintro e w3 ⟨b, rfl, hsm, hb⟩
  replace HK := Aside0.mk (HK.out.below hb)
  replace HC := Aside0.mk (HC.out.below hb)
  clear hb h1_0 h1_1 h1_2 h1_3 h1_4 h1_5
  cases b with
  | false =>
    clear hsm
    go_wp2_with fail
    go_ret
    exact ⟨rfl, HK.out.hB⟩
  | true =>
    have HO := Aside0.mk (hsm rfl)
    have HO1 := Aside0.mk (Ok.more HO.out (by decide : 900 ≤ 1000))
    clear hsm
    have h1_0 : w3.cell? ⟨g1, 0, none⟩ = some (.int .i64 a0) := (blk_cell HK.out.head 0).trans rfl
    have h1_1 : w3.cell? ⟨g1, 1, none⟩ = some (.int .i64 a1) := (blk_cell HK.out.head 1).trans rfl
    have h1_2 : w3.cell? ⟨g1, 2, none⟩ = some (.int .i64 a2) := (blk_cell HK.out.head 2).trans rfl
    have h1_3 : w3.cell? ⟨g1, 3, none⟩ = some (.int .i64 a3) := (blk_cell HK.out.head 3).trans rfl
    have h1_4 : w3.cell? ⟨g1, 4, none⟩ = some (.slice A4 L.length c4) := (blk_cell HK.out.head 4).trans rfl
    have h1_5 : w3.cell? ⟨g1, 5, none⟩ = some (.slice A5 S.length c5) := (blk_cell HK.out.head 5).trans rfl
    go_wp2_with fail
    refine (fill_cc a0 a1 a2 a3 A4 c4 L A5 c5 S _ HC.out HO1.out).mono ?_
    rintro e w4 ⟨D4, d4, D5, d5, rfl, -, -, hcd, hb⟩
    replace HK := Aside0.mk (HK.out.below hb)
    replace HC := Aside0.mk (HC.out.below hb)
    have HD := Aside0.mk hcd
    clear hb hcd h1_0 h1_1 h1_2 h1_3 h1_4 h1_5
    have q1 : decide (((fillL L).length : Int) < (L.length : Int)) = false := decide_eq_false (by have := fillL_le L; omega)
    have q2 : decide (((fillS S).length : Int) < (S.length : Int)) = false := decide_eq_false (by have := fillS_le S; omega)
    have q3 : decide (wrap64 ((L.length : Int) + 2) < ((fillL L).length : Int)) = false := decide_eq_false (by have := fillL_len L; have := HO.out.l; unfold wrap64; omega)
    have q4 : decide (wrap64 ((S.length : Int) + 2) < ((fillS S).length : Int)) = false := decide_eq_false (by have := fillS_len S; have := HO.out.s; unfold wrap64; omega)
    have k1 := fillL_le L
    have k2 := fillS_le S
    have k3 := fillL_len L
    have k4 := fillS_len S
    have k5 := HO.out.l
    have k6 := HO.out.s
    have n1 : decide ((fillL L).length < L.length) = false := decide_eq_false (by omega)
    have n2 : decide ((fillS S).length < S.length) = false := decide_eq_false (by omega)
    go_upto_region 8 with (first | ((with_reducible refine gate_dst (N := 12) rfl ?_); refine new_world ?_; intro w5 hbox hb; replace HK := Aside0.mk ((HK.out.below hb).cons hbox); replace HC := Aside0.mk (HC.out.below hb); replace HD := Aside0.mk (HD.out.below hb); clear hb hbox; have h3_0 : w5.cell? ⟨w4.heap.size, 0, none⟩ = some (.int .i64 (orV a0 100)) := (blk_cell HK.out.head 0).trans rfl; have h3_1 : w5.cell? ⟨w4.heap.size, 1, none⟩ = some (.int .i64 (orV a1 10)) := (blk_cell HK.out.head 1).trans rfl; have h3_2 : w5.cell? ⟨w4.heap.size, 2, none⟩ = some (.int .i64 (orV a2 100)) := (blk_cell HK.out.head 2).trans rfl; have h3_3 : w5.cell? ⟨w4.heap.size, 3, none⟩ = some (.int .i64 (orV a3 10)) := (blk_cell HK.out.head 3).trans rfl; have h3_4 : w5.cell? ⟨w4.heap.size, 4, none⟩ = some (.slice D4 (fillL L).length d4) := (blk_cell HK.out.head 4).trans rfl; have h3_5 : w5.cell? ⟨w4.heap.size, 5, none⟩ = some (.slice D5 (fillS S).length d5) := (blk_cell HK.out.head 5).trans rfl; have h1_0 : w5.cell? ⟨g1, 0, none⟩ = some (.int .i64 a0) := (blk_cell HK.out.tail.head 0).trans rfl; have h1_1 : w5.cell? ⟨g1, 1, none⟩ = some (.int .i64 a1) := (blk_cell HK.out.tail.head 1).trans rfl; have h1_2 : w5.cell? ⟨g1, 2, none⟩ = some (.int .i64 a2) := (blk_cell HK.out.tail.head 2).trans rfl; have h1_3 : w5.cell? ⟨g1, 3, none⟩ = some (.int .i64 a3) := (blk_cell HK.out.tail.head 3).trans rfl; have h1_4 : w5.cell? ⟨g1, 4, none⟩ = some (.slice A4 L.length c4) := (blk_cell HK.out.tail.head 4).trans rfl; have h1_5 : w5.cell? ⟨g1, 5, none⟩ = some (.slice A5 S.length c5) := (blk_cell HK.out.tail.head 5).trans rfl))
    clear q1 q2 q3 q4 n1 n2 k1 k2 k3 k4 k5 k6
    go_cut [93] (fun v wc => v = .bool false ∧ wc = w5)
    case first =>
      rcases told a0 100 with e0 | ⟨e0, f0⟩ <;> rcases told a1 10 with e1 | ⟨e1, f1⟩ <;> rcases told a2 100 with e2 | ⟨e2, f2⟩ <;> rcases told a3 10 with e3 | ⟨e3, f3⟩ <;> (go_wp2_with fail; go_meet; exact ⟨rfl, rfl⟩)
    case rest =>
      obtain ⟨rfl, rfl⟩ := hcut
      go_wp2_with fail
      have hb := below_alloc (Below.refl _ wc) (.cells #[.int .i64 (orV a0 100), .int .i64 (orV a1 10), .int .i64 (orV a2 100), .int .i64 (orV a3 10), .slice D4 (fillL L).length d4, .slice D5 (fillS S).length d5] 25)
      have HB := Aside0.mk hb
      have B4 := Aside0.mk (blk_new wc (.cells #[.int .i64 (orV a0 100), .int .i64 (orV a1 10), .int .i64 (orV a2 100), .int .i64 (orV a3 10), .slice D4 (fillL L).length d4, .slice D5 (fillS S).length d5] 25))
      clear hb h1_0 h3_0 h1_1 h3_1 h1_2 h3_2 h1_3 h3_3 h1_4 h3_4 h1_5 h3_5
      generalize wc.alloc (.cells #[.int .i64 (orV a0 100), .int .i64 (orV a1 10), .int .i64 (orV a2 100), .int .i64 (orV a3 10), .slice D4 (fillL L).length d4, .slice D5 (fillS S).length d5] 25) = w7 at HB B4 ⊢
      have N3 := Aside0.mk (blk_lt HK.out.head)
      have N1 := Aside0.mk (blk_lt HK.out.tail.head)
      refine start_ (n := 16) (S := fun w' => w'.cell? ⟨g1, 0, none⟩ = some (.int .i64 a0) ∧ w'.cell? ⟨g1, 1, none⟩ = some (.int .i64 a1) ∧ w'.cell? ⟨g1, 2, none⟩ = some (.int .i64 a2) ∧ w'.cell? ⟨g1, 3, none⟩ = some (.int .i64 a3)) (ds := []) #[false, false, false, false, false, false, false, false, false, false, false, false, false, false, false, false] (by kernel_rfl) rfl rfl ⟨(blk_cell (blk_below HK.out.tail.head HB.out) 0).trans rfl, (blk_cell (blk_below HK.out.tail.head HB.out) 1).trans rfl, (blk_cell (blk_below HK.out.tail.head HB.out) 2).trans rfl, (blk_cell (blk_below HK.out.tail.head HB.out) 3).trans rfl⟩ (fun hHeld => ?_); refine with_tabW tab11 bits11 (fun HT_ HW_ => ?_)
      have hb := below_drew (Below.refl w7.heap.size w7)
      replace HB := Aside0.mk (below_step HB.out hb)
      replace B4 := Aside0.mk (blk_drew B4.out)
      clear hb
      generalize w7.drew = w8 at HB B4 hHeld ⊢
      refine pure_ (i := 0) (N := some 95) (v := ?_) (a' := ?_) #[true, false, false, false, false, false, false, false, false, false, false, false, false, false, false, false] rfl rfl (any_of HT_.out (by kernel_rfl)) (fun _ _ _ h => h) (Or.inl ⟨by rfl, ?_⟩) ?_ ?_
      rotate_left
      · intro w'
        go_simp
        with_reducible rfl
      rotate_left
      · simp only [Act.put, List.setIfInBounds_toArray, List.set_cons_zero, List.set_cons_succ, i64_w, i32_w]
        rfl
      refine pure_ (i := 2) (N := some 97) (v := ?_) (a' := ?_) #[true, false, true, false, false, false, false, false, false, false, false, false, false, false, false, false] rfl rfl (any_of HT_.out (by kernel_rfl)) (fun _ _ _ h => h) (Or.inl ⟨by rfl, ?_⟩) ?_ ?_
      rotate_left
      · intro w'
        go_simp
        with_reducible rfl
      rotate_left
      · simp only [Act.put, List.setIfInBounds_toArray, List.set_cons_zero, List.set_cons_succ, i64_w, i32_w]
        rfl
      refine pure_ (i := 4) (N := some 99) (v := ?_) (a' := ?_) #[true, false, true, false, true, false, false, false, false, false, false, false, false, false, false, false] rfl rfl (any_of HT_.out (by kernel_rfl)) (fun _ _ _ h => h) (Or.inl ⟨by rfl, ?_⟩) ?_ ?_
      rotate_left
      · intro w'
        go_simp
        with_reducible rfl
      rotate_left
      · simp only [Act.put, List.setIfInBounds_toArray, List.set_cons_zero, List.set_cons_succ, i64_w, i32_w]
        rfl
      refine pure_ (i := 6) (N := some 101) (v := ?_) (a' := ?_) #[true, false, true, false, true, false, true, false, false, false, false, false, false, false, false, false] rfl rfl (any_of HT_.out (by kernel_rfl)) (fun _ _ _ h => h) (Or.inl ⟨by rfl, ?_⟩) ?_ ?_
      rotate_left
      · intro w'
        go_simp
        with_reducible rfl
      rotate_left
      · simp only [Act.put, List.setIfInBounds_toArray, List.set_cons_zero, List.set_cons_succ, i64_w, i32_w]
        rfl
      refine take_ (i := 1) (N := some 96) (v := ?_) (a' := ?_) #[true, true, true, false, true, false, true, false, false, false, false, false, false, false, false, false] rfl rfl (take_ofW HT_.out HW_.out (by kernel_rfl)) (fun _ _ _ h => h) (Or.inl ⟨by rfl, ?_⟩) hHeld ?_ ?_
      rotate_left
      · rintro w' ⟨s0, s1, s2, s3⟩
        go_simp
        with_reducible rfl
      rotate_left
      · simp only [Act.put, List.setIfInBounds_toArray, List.set_cons_zero, List.set_cons_succ, i64_w, i32_w]
        rfl
      refine take_ (i := 3) (N := some 98) (v := ?_) (a' := ?_) #[true, true, true, true, true, false, true, false, false, false, false, false, false, false, false, false] rfl rfl (take_ofW HT_.out HW_.out (by kernel_rfl)) (fun _ _ _ h => h) (Or.inl ⟨by rfl, ?_⟩) hHeld ?_ ?_
      rotate_left
      · rintro w' ⟨s0, s1, s2, s3⟩
        go_simp
        with_reducible rfl
      rotate_left
      · simp only [Act.put, List.setIfInBounds_toArray, List.set_cons_zero, List.set_cons_succ, i64_w, i32_w]
        rfl
      refine take_ (i := 5) (N := some 100) (v := ?_) (a' := ?_) #[true, true, true, true, true, true, true, false, false, false, false, false, false, false, false, false] rfl rfl (take_ofW HT_.out HW_.out (by kernel_rfl)) (fun _ _ _ h => h) (Or.inl ⟨by rfl, ?_⟩) hHeld ?_ ?_
      rotate_left
      · rintro w' ⟨s0, s1, s2, s3⟩
        go_simp
        with_reducible rfl
      rotate_left
      · simp only [Act.put, List.setIfInBounds_toArray, List.set_cons_zero, List.set_cons_succ, i64_w, i32_w]
        rfl
      refine take_ (i := 7) (N := some 102) (v := ?_) (a' := ?_) #[true, true, true, true, true, true, true, true, false, false, false, false, false, false, false, false] rfl rfl (take_ofW HT_.out HW_.out (by kernel_rfl)) (fun _ _ _ h => h) (Or.inl ⟨by rfl, ?_⟩) hHeld ?_ ?_
      rotate_left
      · rintro w' ⟨s0, s1, s2, s3⟩
        go_simp
        with_reducible rfl
      rotate_left
      · simp only [Act.put, List.setIfInBounds_toArray, List.set_cons_zero, List.set_cons_succ, i64_w, i32_w]
        rfl
      refine pure_ (i := 8) (N := some 103) (v := ?_) (a' := ?_) #[true, true, true, true, true, true, true, true, true, false, false, false, false, false, false, false] rfl rfl (any_of HT_.out (by kernel_rfl)) (fun _ _ _ h => h) (Or.inl ⟨by rfl, ?_⟩) ?_ ?_
      rotate_left
      · intro w'
        go_simp
        with_reducible rfl
      rotate_left
      · simp only [Act.put, List.setIfInBounds_toArray, List.set_cons_zero, List.set_cons_succ, i64_w, i32_w]
        rfl
      refine one_ (i := 9) (N := none) #[true, true, true, true, true, true, true, true, true, true, false, false, false, false, false, false] rfl rfl (one_of HT_.out (by kernel_rfl)) (by decide) (fun K hK => ?_)
      have hs_ : w8.cell? ⟨wc.heap.size, 0, none⟩ = some (.int .i64 (orV a0 100)) := (blk_cell B4.out 0).trans rfl
      have hf_ := blk_frozen B4.out 0
      refine skip_ (w1 := ?_) (by rfl) rfl ?_ ?_
      rotate_left
      · go_simp
        rfl
      have HBn := Aside0.mk (show Below wc.heap.size wc (w8.setCell ⟨wc.heap.size, 0, none⟩ (.int .i64 a0)) from below_set HB.out (Nat.le_refl _))
      have B4n : Aside0 ((w8.setCell ⟨wc.heap.size, 0, none⟩ (.int .i64 a0)).heap[wc.heap.size]? = some (.cells #[.int .i64 a0, .int .i64 (orV a1 10), .int .i64 (orV a2 100), .int .i64 (orV a3 10), .slice D4 (fillL L).length d4, .slice D5 (fillS S).length d5] 25 (0, 0))) := ⟨blk_set B4.out 0 _⟩
      clear hs_ hf_ HB B4
      refine hK.out _ _ ⟨(blk_cell (blk_below HK.out.tail.head HBn.out) 0).trans rfl, (blk_cell (blk_below HK.out.tail.head HBn.out) 1).trans rfl, (blk_cell (blk_below HK.out.tail.head HBn.out) 2).trans rfl, (blk_cell (blk_below HK.out.tail.head HBn.out) 3).trans rfl⟩ (fun hHeld => ?_)
      clear hK K
      have HB := HBn
      have B4 := B4n
      clear HBn B4n
      generalize w8.setCell ⟨wc.heap.size, 0, none⟩ (.int .i64 a0) = y0_ at HB B4 hHeld ⊢
      refine pure_ (i := 10) (N := some 104) (v := ?_) (a' := ?_) #[true, true, true, true, true, true, true, true, true, true, true, false, false, false, false, false] rfl rfl (any_of HT_.out (by kernel_rfl)) (fun _ _ _ h => h) (Or.inl ⟨by rfl, ?_⟩) ?_ ?_
      rotate_left
      · intro w'
        go_simp
        with_reducible rfl
      rotate_left
      · simp only [Act.put, List.setIfInBounds_toArray, List.set_cons_zero, List.set_cons_succ, i64_w, i32_w]
        rfl
      refine one_ (i := 11) (N := none) #[true, true, true, true, true, true, true, true, true, true, true, true, false, false, false, false] rfl rfl (one_of HT_.out (by kernel_rfl)) (by decide) (fun K hK => ?_)
      have hs_ : y0_.cell? ⟨wc.heap.size, 1, none⟩ = some (.int .i64 (orV a1 10)) := (blk_cell B4.out 1).trans rfl
      have hf_ := blk_frozen B4.out 1
      refine skip_ (w1 := ?_) (by rfl) rfl ?_ ?_
      rotate_left
      · go_simp
        rfl
      have HBn := Aside0.mk (show Below wc.heap.size wc (y0_.setCell ⟨wc.heap.size, 1, none⟩ (.int .i64 a1)) from below_set HB.out (Nat.le_refl _))
      have B4n : Aside0 ((y0_.setCell ⟨wc.heap.size, 1, none⟩ (.int .i64 a1)).heap[wc.heap.size]? = some (.cells #[.int .i64 a0, .int .i64 a1, .int .i64 (orV a2 100), .int .i64 (orV a3 10), .slice D4 (fillL L).length d4, .slice D5 (fillS S).length d5] 25 (0, 0))) := ⟨blk_set B4.out 1 _⟩
      clear hs_ hf_ HB B4
      refine hK.out _ _ ⟨(blk_cell (blk_below HK.out.tail.head HBn.out) 0).trans rfl, (blk_cell (blk_below HK.out.tail.head HBn.out) 1).trans rfl, (blk_cell (blk_below HK.out.tail.head HBn.out) 2).trans rfl, (blk_cell (blk_below HK.out.tail.head HBn.out) 3).trans rfl⟩ (fun hHeld => ?_)
      clear hK K
      have HB := HBn
      have B4 := B4n
      clear HBn B4n
      generalize y0_.setCell ⟨wc.heap.size, 1, none⟩ (.int .i64 a1) = y1_ at HB B4 hHeld ⊢
      refine pure_ (i := 12) (N := some 105) (v := ?_) (a' := ?_) #[true, true, true, true, true, true, true, true, true, true, true, true, true, false, false, false] rfl rfl (any_of HT_.out (by kernel_rfl)) (fun _ _ _ h => h) (Or.inl ⟨by rfl, ?_⟩) ?_ ?_
      rotate_left
      · intro w'
        go_simp
        with_reducible rfl
      rotate_left
      · simp only [Act.put, List.setIfInBounds_toArray, List.set_cons_zero, List.set_cons_succ, i64_w, i32_w]
        rfl
      refine one_ (i := 13) (N := none) #[true, true, true, true, true, true, true, true, true, true, true, true, true, true, false, false] rfl rfl (one_of HT_.out (by kernel_rfl)) (by decide) (fun K hK => ?_)
      have hs_ : y1_.cell? ⟨wc.heap.size, 2, none⟩ = some (.int .i64 (orV a2 100)) := (blk_cell B4.out 2).trans rfl
      have hf_ := blk_frozen B4.out 2
      refine skip_ (w1 := ?_) (by rfl) rfl ?_ ?_
      rotate_left
      · go_simp
        rfl
      have HBn := Aside0.mk (show Below wc.heap.size wc (y1_.setCell ⟨wc.heap.size, 2, none⟩ (.int .i64 a2)) from below_set HB.out (Nat.le_refl _))
      have B4n : Aside0 ((y1_.setCell ⟨wc.heap.size, 2, none⟩ (.int .i64 a2)).heap[wc.heap.size]? = some (.cells #[.int .i64 a0, .int .i64 a1, .int .i64 a2, .int .i64 (orV a3 10), .slice D4 (fillL L).length d4, .slice D5 (fillS S).length d5] 25 (0, 0))) := ⟨blk_set B4.out 2 _⟩
      clear hs_ hf_ HB B4
      refine hK.out _ _ ⟨(blk_cell (blk_below HK.out.tail.head HBn.out) 0).trans rfl, (blk_cell (blk_below HK.out.tail.head HBn.out) 1).trans rfl, (blk_cell (blk_below HK.out.tail.head HBn.out) 2).trans rfl, (blk_cell (blk_below HK.out.tail.head HBn.out) 3).trans rfl⟩ (fun hHeld => ?_)
      clear hK K
      have HB := HBn
      have B4 := B4n
      clear HBn B4n
      generalize y1_.setCell ⟨wc.heap.size, 2, none⟩ (.int .i64 a2) = y2_ at HB B4 hHeld ⊢
      refine pure_ (i := 14) (N := some 106) (v := ?_) (a' := ?_) #[true, true, true, true, true, true, true, true, true, true, true, true, true, true, true, false] rfl rfl (any_of HT_.out (by kernel_rfl)) (fun _ _ _ h => h) (Or.inl ⟨by rfl, ?_⟩) ?_ ?_
      rotate_left
      · intro w'
        go_simp
        with_reducible rfl
      rotate_left
      · simp only [Act.put, List.setIfInBounds_toArray, List.set_cons_zero, List.set_cons_succ, i64_w, i32_w]
        rfl
      refine one_ (i := 15) (N := none) #[true, true, true, true, true, true, true, true, true, true, true, true, true, true, true, true] rfl rfl (one_of HT_.out (by kernel_rfl)) (by decide) (fun K hK => ?_)
      have hs_ : y2_.cell? ⟨wc.heap.size, 3, none⟩ = some (.int .i64 (orV a3 10)) := (blk_cell B4.out 3).trans rfl
      have hf_ := blk_frozen B4.out 3
      refine skip_ (w1 := ?_) (by rfl) rfl ?_ ?_
      rotate_left
      · go_simp
        rfl
      have HBn := Aside0.mk (show Below wc.heap.size wc (y2_.setCell ⟨wc.heap.size, 3, none⟩ (.int .i64 a3)) from below_set HB.out (Nat.le_refl _))
      have B4n : Aside0 ((y2_.setCell ⟨wc.heap.size, 3, none⟩ (.int .i64 a3)).heap[wc.heap.size]? = some (.cells #[.int .i64 a0, .int .i64 a1, .int .i64 a2, .int .i64 a3, .slice D4 (fillL L).length d4, .slice D5 (fillS S).length d5] 25 (0, 0))) := ⟨blk_set B4.out 3 _⟩
      clear hs_ hf_ HB B4
      refine hK.out _ _ ⟨(blk_cell (blk_below HK.out.tail.head HBn.out) 0).trans rfl, (blk_cell (blk_below HK.out.tail.head HBn.out) 1).trans rfl, (blk_cell (blk_below HK.out.tail.head HBn.out) 2).trans rfl, (blk_cell (blk_below HK.out.tail.head HBn.out) 3).trans rfl⟩ (fun hHeld => ?_)
      clear hK K
      have HB := HBn
      have B4 := B4n
      clear HBn B4n
      generalize y2_.setCell ⟨wc.heap.size, 3, none⟩ (.int .i64 a3) = y3_ at HB B4 hHeld ⊢
      refine done_ (done_of HT_.out (by kernel_rfl)) ?_
      try clear hHeld
      try clear hHeld
      try clear hHeld
      try clear hHeld
      try clear hHeld
      clear HT_ HW_
      go_wp2_with fail
      have hcut4 := cut_run (t := 22) D4 (fillL L).length d4 L.length (Nat.le_trans (fillL_le L) HD.out.kl) Try.underlying22 I31
      have hcut5 := cut_run (t := 23) D5 (fillS S).length d5 S.length (Nat.le_trans (fillS_le S) HD.out.ks) Try.underlying23 I34
      refine start_ (n := 16) (S := fun w' => w'.cell? ⟨w4.heap.size, 4, none⟩ = some (.slice D4 (fillL L).length d4) ∧ w'.cell? ⟨w4.heap.size, 5, none⟩ = some (.slice D5 (fillS S).length d5) ∧ w'.cell? ⟨g1, 4, none⟩ = some (.slice A4 L.length c4) ∧ w'.cell? ⟨g1, 5, none⟩ = some (.slice A5 S.length c5)) (ds := []) #[false, false, false, false, false, false, false, false, false, false, false, false, false, false, false, false] (by kernel_rfl) rfl rfl ⟨(blk_cell (blk_below HK.out.head HB.out) 4).trans rfl, (blk_cell (blk_below HK.out.head HB.out) 5).trans rfl, (blk_cell (blk_below HK.out.tail.head HB.out) 4).trans rfl, (blk_cell (blk_below HK.out.tail.head HB.out) 5).trans rfl⟩ (fun hHeld => ?_); refine with_tabW tab12 bits12 (fun HT_ HW_ => ?_)
      have hb := below_drew (Below.refl y3_.heap.size y3_)
      replace HB := Aside0.mk (below_step HB.out hb)
      replace B4 := Aside0.mk (blk_drew B4.out)
      clear hb
      generalize y3_.drew = w9 at HB B4 hHeld ⊢
      refine pure_ (i := 0) (N := some 107) (v := ?_) (a' := ?_) #[true, false, false, false, false, false, false, false, false, false, false, false, false, false, false, false] rfl rfl (any_of HT_.out (by kernel_rfl)) (fun _ _ _ h => h) (Or.inl ⟨by rfl, ?_⟩) ?_ ?_
      rotate_left
      · intro w'
        go_simp
        with_reducible rfl
      rotate_left
      · simp only [Act.put, List.setIfInBounds_toArray, List.set_cons_zero, List.set_cons_succ, i64_w, i32_w]
        rfl
      refine pure_ (i := 2) (N := some 109) (v := ?_) (a' := ?_) #[true, false, true, false, false, false, false, false, false, false, false, false, false, false, false, false] rfl rfl (any_of HT_.out (by kernel_rfl)) (fun _ _ _ h => h) (Or.inl ⟨by rfl, ?_⟩) ?_ ?_
      rotate_left
      · intro w'
        go_simp
        with_reducible rfl
      rotate_left
      · simp only [Act.put, List.setIfInBounds_toArray, List.set_cons_zero, List.set_cons_succ, i64_w, i32_w]
        rfl
      refine pure_ (i := 6) (N := some 113) (v := ?_) (a' := ?_) #[true, false, true, false, false, false, true, false, false, false, false, false, false, false, false, false] rfl rfl (any_of HT_.out (by kernel_rfl)) (fun _ _ _ h => h) (Or.inl ⟨by rfl, ?_⟩) ?_ ?_
      rotate_left
      · intro w'
        go_simp
        with_reducible rfl
      rotate_left
      · simp only [Act.put, List.setIfInBounds_toArray, List.set_cons_zero, List.set_cons_succ, i64_w, i32_w]
        rfl
      refine pure_ (i := 8) (N := some 115) (v := ?_) (a' := ?_) #[true, false, true, false, false, false, true, false, true, false, false, false, false, false, false, false] rfl rfl (any_of HT_.out (by kernel_rfl)) (fun _ _ _ h => h) (Or.inl ⟨by rfl, ?_⟩) ?_ ?_
      rotate_left
      · intro w'
        go_simp
        with_reducible rfl
      rotate_left
      · simp only [Act.put, List.setIfInBounds_toArray, List.set_cons_zero, List.set_cons_succ, i64_w, i32_w]
        rfl
      refine take_ (i := 1) (N := some 108) (v := ?_) (a' := ?_) #[true, true, true, false, false, false, true, false, true, false, false, false, false, false, false, false] rfl rfl (take_ofW HT_.out HW_.out (by kernel_rfl)) (fun _ _ _ h => h) (Or.inl ⟨by rfl, ?_⟩) hHeld ?_ ?_
      rotate_left
      · rintro w' ⟨s0, s1, s2, s3⟩
        go_simp
        with_reducible rfl
      rotate_left
      · simp only [Act.put, List.setIfInBounds_toArray, List.set_cons_zero, List.set_cons_succ, i64_w, i32_w]
        rfl
      refine take_ (i := 3) (N := some 110) (v := ?_) (a' := ?_) #[true, true, true, true, false, false, true, false, true, false, false, false, false, false, false, false] rfl rfl (take_ofW HT_.out HW_.out (by kernel_rfl)) (fun _ _ _ h => h) (Or.inl ⟨by rfl, ?_⟩) hHeld ?_ ?_
      rotate_left
      · rintro w' ⟨s0, s1, s2, s3⟩
        go_simp
        with_reducible rfl
      rotate_left
      · simp only [Act.put, List.setIfInBounds_toArray, List.set_cons_zero, List.set_cons_succ, i64_w, i32_w]
        rfl
      refine pure_ (i := 4) (N := some 111) (v := ?_) (a' := ?_) #[true, true, true, true, true, false, true, false, true, false, false, false, false, false, false, false] rfl rfl (any_of HT_.out (by kernel_rfl)) (fun _ _ _ h => h) (Or.inl ⟨by rfl, ?_⟩) ?_ ?_
      rotate_left
      · intro w'
        go_simp
        with_reducible rfl
      rotate_left
      · simp only [Act.put, List.setIfInBounds_toArray, List.set_cons_zero, List.set_cons_succ, i64_w, i32_w]
        rfl
      refine pure_ (i := 5) (N := some 112) (v := ?_) (a' := ?_) #[true, true, true, true, true, true, true, false, true, false, false, false, false, false, false, false] rfl rfl (any_of HT_.out (by kernel_rfl)) (fun _ _ _ h => h) (Or.inl ⟨by rfl, ?_⟩) ?_ ?_
      rotate_left
      · intro w'
        go_simp
        with_reducible rfl
      rotate_left
      · simp only [Act.put, List.setIfInBounds_toArray, List.set_cons_zero, List.set_cons_succ, i64_w, i32_w]
        rfl
      refine take_ (i := 7) (N := some 114) (v := ?_) (a' := ?_) #[true, true, true, true, true, true, true, true, true, false, false, false, false, false, false, false] rfl rfl (take_ofW HT_.out HW_.out (by kernel_rfl)) (fun _ _ _ h => h) (Or.inl ⟨by rfl, ?_⟩) hHeld ?_ ?_
      rotate_left
      · rintro w' ⟨s0, s1, s2, s3⟩
        go_simp
        with_reducible rfl
      rotate_left
      · simp only [Act.put, List.setIfInBounds_toArray, List.set_cons_zero, List.set_cons_succ, i64_w, i32_w]
        rfl
      refine take_ (i := 9) (N := some 116) (v := ?_) (a' := ?_) #[true, true, true, true, true, true, true, true, true, true, false, false, false, false, false, false] rfl rfl (take_ofW HT_.out HW_.out (by kernel_rfl)) (fun _ _ _ h => h) (Or.inl ⟨by rfl, ?_⟩) hHeld ?_ ?_
      rotate_left
      · rintro w' ⟨s0, s1, s2, s3⟩
        go_simp
        with_reducible rfl
      rotate_left
      · simp only [Act.put, List.setIfInBounds_toArray, List.set_cons_zero, List.set_cons_succ, i64_w, i32_w]
        rfl
      refine pure_ (i := 10) (N := some 117) (v := ?_) (a' := ?_) #[true, true, true, true, true, true, true, true, true, true, true, false, false, false, false, false] rfl rfl (any_of HT_.out (by kernel_rfl)) (fun _ _ _ h => h) (Or.inl ⟨by rfl, ?_⟩) ?_ ?_
      rotate_left
      · intro w'
        go_simp
        with_reducible rfl
      rotate_left
      · simp only [Act.put, List.setIfInBounds_toArray, List.set_cons_zero, List.set_cons_succ, i64_w, i32_w]
        rfl
      refine pure_ (i := 11) (N := some 118) (v := ?_) (a' := ?_) #[true, true, true, true, true, true, true, true, true, true, true, true, false, false, false, false] rfl rfl (any_of HT_.out (by kernel_rfl)) (fun _ _ _ h => h) (Or.inl ⟨by rfl, ?_⟩) ?_ ?_
      rotate_left
      · intro w'
        go_simp
        with_reducible rfl
      rotate_left
      · simp only [Act.put, List.setIfInBounds_toArray, List.set_cons_zero, List.set_cons_succ, i64_w, i32_w]
        rfl
      refine pure_ (i := 12) (N := some 119) (v := ?_) (a' := ?_) #[true, true, true, true, true, true, true, true, true, true, true, true, true, false, false, false] rfl rfl (any_of HT_.out (by kernel_rfl)) (fun _ _ _ h => h) (Or.inl ⟨by rfl, ?_⟩) ?_ ?_
      rotate_left
      · intro w'
        go_simp
        with_reducible rfl
      rotate_left
      · simp only [Act.put, List.setIfInBounds_toArray, List.set_cons_zero, List.set_cons_succ, i64_w, i32_w]
        rfl
      refine one_ (i := 13) (N := none) #[true, true, true, true, true, true, true, true, true, true, true, true, true, true, false, false] rfl rfl (one_of HT_.out (by kernel_rfl)) (by decide) (fun K hK => ?_)
      have hs_ : w9.cell? ⟨wc.heap.size, 4, none⟩ = some (.slice D4 (fillL L).length d4) := (blk_cell B4.out 4).trans rfl
      have hf_ := blk_frozen B4.out 4
      refine skip_ (w1 := ?_) (by rfl) rfl ?_ ?_
      rotate_left
      · go_simp
        rfl
      have HBn := Aside0.mk (show Below wc.heap.size wc (w9.setCell ⟨wc.heap.size, 4, none⟩ (.slice D4 L.length d4)) from below_set HB.out (Nat.le_refl _))
      have B4n : Aside0 ((w9.setCell ⟨wc.heap.size, 4, none⟩ (.slice D4 L.length d4)).heap[wc.heap.size]? = some (.cells #[.int .i64 a0, .int .i64 a1, .int .i64 a2, .int .i64 a3, .slice D4 L.length d4, .slice D5 (fillS S).length d5] 25 (0, 0))) := ⟨blk_set B4.out 4 _⟩
      clear hs_ hf_ HB B4
      refine hK.out _ _ ⟨(blk_cell (blk_below HK.out.head HBn.out) 4).trans rfl, (blk_cell (blk_below HK.out.head HBn.out) 5).trans rfl, (blk_cell (blk_below HK.out.tail.head HBn.out) 4).trans rfl, (blk_cell (blk_below HK.out.tail.head HBn.out) 5).trans rfl⟩ (fun hHeld => ?_)
      clear hK K
      have HB := HBn
      have B4 := B4n
      clear HBn B4n
      generalize w9.setCell ⟨wc.heap.size, 4, none⟩ (.slice D4 L.length d4) = y4_ at HB B4 hHeld ⊢
      refine pure_ (i := 14) (N := some 120) (v := ?_) (a' := ?_) #[true, true, true, true, true, true, true, true, true, true, true, true, true, true, true, false] rfl rfl (any_of HT_.out (by kernel_rfl)) (fun _ _ _ h => h) (Or.inl ⟨by rfl, ?_⟩) ?_ ?_
      rotate_left
      · intro w'
        go_simp
        with_reducible rfl
      rotate_left
      · simp only [Act.put, List.setIfInBounds_toArray, List.set_cons_zero, List.set_cons_succ, i64_w, i32_w]
        rfl
      refine one_ (i := 15) (N := none) #[true, true, true, true, true, true, true, true, true, true, true, true, true, true, true, true] rfl rfl (one_of HT_.out (by kernel_rfl)) (by decide) (fun K hK => ?_)
      have hs_ : y4_.cell? ⟨wc.heap.size, 5, none⟩ = some (.slice D5 (fillS S).length d5) := (blk_cell B4.out 5).trans rfl
      have hf_ := blk_frozen B4.out 5
      refine skip_ (w1 := ?_) (by rfl) rfl ?_ ?_
      rotate_left
      · go_simp
        rfl
      have HBn := Aside0.mk (show Below wc.heap.size wc (y4_.setCell ⟨wc.heap.size, 5, none⟩ (.slice D5 S.length d5)) from below_set HB.out (Nat.le_refl _))
      have B4n : Aside0 ((y4_.setCell ⟨wc.heap.size, 5, none⟩ (.slice D5 S.length d5)).heap[wc.heap.size]? = some (.cells #[.int .i64 a0, .int .i64 a1, .int .i64 a2, .int .i64 a3, .slice D4 L.length d4, .slice D5 S.length d5] 25 (0, 0))) := ⟨blk_set B4.out 5 _⟩
      clear hs_ hf_ HB B4
      refine hK.out _ _ ⟨(blk_cell (blk_below HK.out.head HBn.out) 4).trans rfl, (blk_cell (blk_below HK.out.head HBn.out) 5).trans rfl, (blk_cell (blk_below HK.out.tail.head HBn.out) 4).trans rfl, (blk_cell (blk_below HK.out.tail.head HBn.out) 5).trans rfl⟩ (fun hHeld => ?_)
      clear hK K
      have HB := HBn
      have B4 := B4n
      clear HBn B4n
      generalize y4_.setCell ⟨wc.heap.size, 5, none⟩ (.slice D5 S.length d5) = y5_ at HB B4 hHeld ⊢
      refine done_ (done_of HT_.out (by kernel_rfl)) ?_
      try clear hHeld
      try clear hHeld
      try clear hHeld
      try clear hHeld
      clear HT_ HW_ hcut4 hcut5
      replace HK := Aside0.mk ((HK.out.below HB.out).cons B4.out)
      replace HC := Aside0.mk (HC.out.below HB.out)
      replace HD := Aside0.mk (HD.out.below HB.out)
      clear HB B4
      go_wp2_with fail
      have z0 : (orV a0 100 != 0) = true := by have := orV_ne a0 100 (by decide); simp [this]
      have z1 : (orV a1 10 != 0) = true := by have := orV_ne a1 10 (by decide); simp [this]
      have z2 : (orV a2 100 != 0) = true := by have := orV_ne a2 100 (by decide); simp [this]
      have z3 : (orV a3 10 != 0) = true := by have := orV_ne a3 10 (by decide); simp [this]
      refine start_ (n := 30) (S := fun w' => w'.cell? ⟨wc.heap.size, 0, none⟩ = some (.int .i64 a0) ∧ w'.cell? ⟨wc.heap.size, 1, none⟩ = some (.int .i64 a1) ∧ w'.cell? ⟨wc.heap.size, 2, none⟩ = some (.int .i64 a2) ∧ w'.cell? ⟨wc.heap.size, 3, none⟩ = some (.int .i64 a3) ∧ w'.cell? ⟨wc.heap.size, 4, none⟩ = some (.slice D4 L.length d4) ∧ w'.cell? ⟨wc.heap.size, 5, none⟩ = some (.slice D5 S.length d5) ∧ w'.cell? ⟨w4.heap.size, 0, none⟩ = some (.int .i64 (orV a0 100)) ∧ w'.cell? ⟨w4.heap.size, 1, none⟩ = some (.int .i64 (orV a1 10)) ∧ w'.cell? ⟨w4.heap.size, 2, none⟩ = some (.int .i64 (orV a2 100)) ∧ w'.cell? ⟨w4.heap.size, 3, none⟩ = some (.int .i64 (orV a3 10)) ∧ w'.cell? ⟨w4.heap.size, 4, none⟩ = some (.slice D4 (fillL L).length d4) ∧ w'.cell? ⟨w4.heap.size, 5, none⟩ = some (.slice D5 (fillS S).length d5) ∧ w'.cell? ⟨g1, 0, none⟩ = some (.int .i64 a0) ∧ w'.cell? ⟨g1, 1, none⟩ = some (.int .i64 a1) ∧ w'.cell? ⟨g1, 2, none⟩ = some (.int .i64 a2) ∧ w'.cell? ⟨g1, 3, none⟩ = some (.int .i64 a3) ∧ w'.cell? ⟨g1, 4, none⟩ = some (.slice A4 L.length c4) ∧ w'.cell? ⟨g1, 5, none⟩ = some (.slice A5 S.length c5)) (ds := []) #[false, false, false, false, false, false, false, false, false, false, false, false, false, false, false, false, false, false, false, false, false, false, false, false, false, false, false, false, false, false] (by kernel_rfl) rfl rfl ⟨(blk_cell HK.out.head 0).trans rfl, (blk_cell HK.out.head 1).trans rfl, (blk_cell HK.out.head 2).trans rfl, (blk_cell HK.out.head 3).trans rfl, (blk_cell HK.out.head 4).trans rfl, (blk_cell HK.out.head 5).trans rfl, (blk_cell HK.out.tail.head 0).trans rfl, (blk_cell HK.out.tail.head 1).trans rfl, (blk_cell HK.out.tail.head 2).trans rfl, (blk_cell HK.out.tail.head 3).trans rfl, (blk_cell HK.out.tail.head 4).trans rfl, (blk_cell HK.out.tail.head 5).trans rfl, (blk_cell HK.out.tail.tail.head 0).trans rfl, (blk_cell HK.out.tail.tail.head 1).trans rfl, (blk_cell HK.out.tail.tail.head 2).trans rfl, (blk_cell HK.out.tail.tail.head 3).trans rfl, (blk_cell HK.out.tail.tail.head 4).trans rfl, (blk_cell HK.out.tail.tail.head 5).trans rfl⟩ (fun hHeld => ?_); refine with_tabW tab13 bits13 (fun HT_ HW_ => ?_)
      have hb := below_drew (Below.refl y5_.heap.size y5_)
      replace HK := Aside0.mk (HK.out.below hb)
      replace HC := Aside0.mk (HC.out.below hb)
      replace HD := Aside0.mk (HD.out.below hb)
      clear hb
      generalize y5_.drew = x0_ at HK HC HD hHeld ⊢
      refine take_ (i := 0) (N := some 121) (v := ?_) (a' := ?_) #[true, false, false, false, false, false, false, false, false, false, false, false, false, false, false, false, false, false, false, false, false, false, false, false, false, false, false, false, false, false] rfl rfl (take_ofW HT_.out HW_.out (by kernel_rfl)) (fun _ _ _ h => h) (Or.inl ⟨by rfl, ?_⟩) hHeld ?_ ?_
      rotate_left
      · rintro w' ⟨s0, s1, s2, s3, s4, s5, s6, s7, s8, s9, s10, s11, s12, s13, s14, s15, s16, s17⟩
        go_simp
        with_reducible rfl
      rotate_left
      · simp only [Act.put, List.setIfInBounds_toArray, List.set_cons_zero, List.set_cons_succ, i64_w, i32_w]
        rfl
      refine take_ (i := 1) (N := some 122) (v := ?_) (a' := ?_) #[true, true, false, false, false, false, false, false, false, false, false, false, false, false, false, false, false, false, false, false, false, false, false, false, false, false, false, false, false, false] rfl rfl (take_ofW HT_.out HW_.out (by kernel_rfl)) (fun _ _ _ h => h) (Or.inl ⟨by rfl, ?_⟩) hHeld ?_ ?_
      rotate_left
      · rintro w' ⟨s0, s1, s2, s3, s4, s5, s6, s7, s8, s9, s10, s11, s12, s13, s14, s15, s16, s17⟩
        go_simp
        with_reducible rfl
      rotate_left
      · simp only [Act.put, List.setIfInBounds_toArray, List.set_cons_zero, List.set_cons_succ, i64_w, i32_w]
        rfl
      refine one_ (i := 2) (N := some 123) #[true, true, true, false, false, false, false, false, false, false, false, false, false, false, false, false, false, false, false, false, false, false, false, false, false, false, false, false, false, false] rfl rfl (one_of HT_.out (by kernel_rfl)) (by decide) (fun K hK => ?_)
      refine goes_ Try.func15 (by kernel_rfl) rfl #[.agg #[.int .i64 a0, .int .i64 a1, .int .i64 a2, .int .i64 a3, .slice D4 L.length d4, .slice D5 S.length d5], .agg #[.int .i64 a0, .int .i64 a1, .int .i64 a2, .int .i64 a3, .slice A4 L.length c4, .slice A5 S.length c5]] (by rfl) rfl rfl (by (try simp only [List.map_toArray, List.map_cons, List.map_nil]); first | done | rfl) ?_
      refine (same_cc a0 a1 a2 a3 D4 A4 d4 c4 L D5 A5 d5 c5 S _ (CC.begin_ HD.out) HC.out HO1.out).mono ?_
      rintro e x1_ ⟨rfl, hb⟩
      refine ⟨_, rfl, ?_⟩
      replace HK := Aside0.mk (HK.out.below hb)
      replace HC := Aside0.mk (HC.out.below hb)
      replace HD := Aside0.mk (HD.out.below hb)
      clear hb
      refine hK.out _ _ ⟨(blk_cell HK.out.head 0).trans rfl, (blk_cell HK.out.head 1).trans rfl, (blk_cell HK.out.head 2).trans rfl, (blk_cell HK.out.head 3).trans rfl, (blk_cell HK.out.head 4).trans rfl, (blk_cell HK.out.head 5).trans rfl, (blk_cell HK.out.tail.head 0).trans rfl, (blk_cell HK.out.tail.head 1).trans rfl, (blk_cell HK.out.tail.head 2).trans rfl, (blk_cell HK.out.tail.head 3).trans rfl, (blk_cell HK.out.tail.head 4).trans rfl, (blk_cell HK.out.tail.head 5).trans rfl, (blk_cell HK.out.tail.tail.head 0).trans rfl, (blk_cell HK.out.tail.tail.head 1).trans rfl, (blk_cell HK.out.tail.tail.head 2).trans rfl, (blk_cell HK.out.tail.tail.head 3).trans rfl, (blk_cell HK.out.tail.tail.head 4).trans rfl, (blk_cell HK.out.tail.tail.head 5).trans rfl⟩ (fun hHeld => ?_)
      clear hK K
      refine norm_ (a' := ?_) ?_ ?_
      rotate_left
      · show Act.put _ (some 123) _ = _
        simp only [Act.put, List.setIfInBounds_toArray, List.set_cons_zero, List.set_cons_succ, i64_w, i32_w]
        rfl
      refine pure_ (i := 3) (N := some 124) (v := ?_) (a' := ?_) #[true, true, true, true, false, false, false, false, false, false, false, false, false, false, false, false, false, false, false, false, false, false, false, false, false, false, false, false, false, false] rfl rfl (any_of HT_.out (by kernel_rfl)) (fun _ _ _ h => h) (Or.inl ⟨by rfl, ?_⟩) ?_ ?_
      rotate_left
      · intro w'
        go_simp
        with_reducible rfl
      rotate_left
      · simp only [Act.put, List.setIfInBounds_toArray, List.set_cons_zero, List.set_cons_succ, i64_w, i32_w]
        rfl
      refine take_ (i := 4) (N := some 125) (v := ?_) (a' := ?_) #[true, true, true, true, true, false, false, false, false, false, false, false, false, false, false, false, false, false, false, false, false, false, false, false, false, false, false, false, false, false] rfl rfl (take_ofW HT_.out HW_.out (by kernel_rfl)) (fun _ _ _ h => h) (Or.inl ⟨by rfl, ?_⟩) hHeld ?_ ?_
      rotate_left
      · rintro w' ⟨s0, s1, s2, s3, s4, s5, s6, s7, s8, s9, s10, s11, s12, s13, s14, s15, s16, s17⟩
        go_simp
        with_reducible rfl
      rotate_left
      · simp only [Act.put, List.setIfInBounds_toArray, List.set_cons_zero, List.set_cons_succ, i64_w, i32_w]
        rfl
      refine take_ (i := 6) (N := some 127) (v := ?_) (a' := ?_) #[true, true, true, true, true, false, true, false, false, false, false, false, false, false, false, false, false, false, false, false, false, false, false, false, false, false, false, false, false, false] rfl rfl (take_ofW HT_.out HW_.out (by kernel_rfl)) (fun _ _ _ h => h) (Or.inl ⟨by rfl, ?_⟩) hHeld ?_ ?_
      rotate_left
      · rintro w' ⟨s0, s1, s2, s3, s4, s5, s6, s7, s8, s9, s10, s11, s12, s13, s14, s15, s16, s17⟩
        go_simp
        with_reducible rfl
      rotate_left
      · simp only [Act.put, List.setIfInBounds_toArray, List.set_cons_zero, List.set_cons_succ, i64_w, i32_w]
        rfl
      refine one_ (i := 5) (N := some 126) #[true, true, true, true, true, true, true, false, false, false, false, false, false, false, false, false, false, false, false, false, false, false, false, false, false, false, false, false, false, false] rfl rfl (one_of HT_.out (by kernel_rfl)) (by decide) (fun K hK => ?_)
      refine goes_ Try.func14 (by kernel_rfl) rfl #[.agg #[.int .i64 (orV a0 100), .int .i64 (orV a1 10), .int .i64 (orV a2 100), .int .i64 (orV a3 10), .slice D4 (fillL L).length d4, .slice D5 (fillS S).length d5]] (by rfl) rfl rfl (by (try simp only [List.map_toArray, List.map_cons, List.map_nil]); first | done | rfl) ?_
      refine (fill_again a0 a1 a2 a3 D4 d4 L D5 d5 S _ HD.out HO.out).mono ?_
      rintro e x2_ ⟨F4, f4, F5, f5, rfl, hcf, hb⟩
      refine ⟨_, rfl, ?_⟩
      replace HK := Aside0.mk (HK.out.below hb)
      replace HC := Aside0.mk (HC.out.below hb)
      replace HD := Aside0.mk (HD.out.below hb)
      have HF := Aside0.mk hcf
      clear hb hcf
      refine hK.out _ _ ⟨(blk_cell HK.out.head 0).trans rfl, (blk_cell HK.out.head 1).trans rfl, (blk_cell HK.out.head 2).trans rfl, (blk_cell HK.out.head 3).trans rfl, (blk_cell HK.out.head 4).trans rfl, (blk_cell HK.out.head 5).trans rfl, (blk_cell HK.out.tail.head 0).trans rfl, (blk_cell HK.out.tail.head 1).trans rfl, (blk_cell HK.out.tail.head 2).trans rfl, (blk_cell HK.out.tail.head 3).trans rfl, (blk_cell HK.out.tail.head 4).trans rfl, (blk_cell HK.out.tail.head 5).trans rfl, (blk_cell HK.out.tail.tail.head 0).trans rfl, (blk_cell HK.out.tail.tail.head 1).trans rfl, (blk_cell HK.out.tail.tail.head 2).trans rfl, (blk_cell HK.out.tail.tail.head 3).trans rfl, (blk_cell HK.out.tail.tail.head 4).trans rfl, (blk_cell HK.out.tail.tail.head 5).trans rfl⟩ (fun hHeld => ?_)
      clear hK K
      refine norm_ (a' := ?_) ?_ ?_
      rotate_left
      · show Act.put _ (some 126) _ = _
        simp only [Act.put, List.setIfInBounds_toArray, List.set_cons_zero, List.set_cons_succ, i64_w, i32_w]
        rfl
      refine one_ (i := 7) (N := some 128) #[true, true, true, true, true, true, true, true, false, false, false, false, false, false, false, false, false, false, false, false, false, false, false, false, false, false, false, false, false, false] rfl rfl (one_of HT_.out (by kernel_rfl)) (by decide) (fun K hK => ?_)
      refine goes_ Try.func15 (by kernel_rfl) rfl #[.agg #[.int .i64 (orV a0 100), .int .i64 (orV a1 10), .int .i64 (orV a2 100), .int .i64 (orV a3 10), .slice F4 (fillL L).length f4, .slice F5 (fillS S).length f5], .agg #[.int .i64 (orV a0 100), .int .i64 (orV a1 10), .int .i64 (orV a2 100), .int .i64 (orV a3 10), .slice D4 (fillL L).length d4, .slice D5 (fillS S).length d5]] (by rfl) rfl rfl (by (try simp only [List.map_toArray, List.map_cons, List.map_nil]); first | done | rfl) ?_
      refine (same_cc (orV a0 100) (orV a1 10) (orV a2 100) (orV a3 10) F4 D4 f4 d4 (fillL L) F5 D5 f5 d5 (fillS S) _ HF.out HD.out (Ok.more (Ok.fill HO.out) (by decide : 902 ≤ 1000))).mono ?_
      rintro e x3_ ⟨rfl, hb⟩
      refine ⟨_, rfl, ?_⟩
      replace HK := Aside0.mk (HK.out.below hb)
      replace HC := Aside0.mk (HC.out.below hb)
      replace HD := Aside0.mk (HD.out.below hb)
      clear hb HF
      refine hK.out _ _ ⟨(blk_cell HK.out.head 0).trans rfl, (blk_cell HK.out.head 1).trans rfl, (blk_cell HK.out.head 2).trans rfl, (blk_cell HK.out.head 3).trans rfl, (blk_cell HK.out.head 4).trans rfl, (blk_cell HK.out.head 5).trans rfl, (blk_cell HK.out.tail.head 0).trans rfl, (blk_cell HK.out.tail.head 1).trans rfl, (blk_cell HK.out.tail.head 2).trans rfl, (blk_cell HK.out.tail.head 3).trans rfl, (blk_cell HK.out.tail.head 4).trans rfl, (blk_cell HK.out.tail.head 5).trans rfl, (blk_cell HK.out.tail.tail.head 0).trans rfl, (blk_cell HK.out.tail.tail.head 1).trans rfl, (blk_cell HK.out.tail.tail.head 2).trans rfl, (blk_cell HK.out.tail.tail.head 3).trans rfl, (blk_cell HK.out.tail.tail.head 4).trans rfl, (blk_cell HK.out.tail.tail.head 5).trans rfl⟩ (fun hHeld => ?_)
      clear hK K
      refine norm_ (a' := ?_) ?_ ?_
      rotate_left
      · show Act.put _ (some 128) _ = _
        simp only [Act.put, List.setIfInBounds_toArray, List.set_cons_zero, List.set_cons_succ, i64_w, i32_w]
        rfl
      refine pure_ (i := 8) (N := some 129) (v := ?_) (a' := ?_) #[true, true, true, true, true, true, true, true, true, false, false, false, false, false, false, false, false, false, false, false, false, false, false, false, false, false, false, false, false, false] rfl rfl (any_of HT_.out (by kernel_rfl)) (fun _ _ _ h => h) (Or.inl ⟨by rfl, ?_⟩) ?_ ?_
      rotate_left
      · intro w'
        go_simp
        with_reducible rfl
      rotate_left
      · simp only [Act.put, List.setIfInBounds_toArray, List.set_cons_zero, List.set_cons_succ, i64_w, i32_w]
        rfl
      refine pure_ (i := 9) (N := some 130) (v := ?_) (a' := ?_) #[true, true, true, true, true, true, true, true, true, true, false, false, false, false, false, false, false, false, false, false, false, false, false, false, false, false, false, false, false, false] rfl rfl (any_of HT_.out (by kernel_rfl)) (fun _ _ _ h => h) (Or.inl ⟨by rfl, ?_⟩) ?_ ?_
      rotate_left
      · intro w'
        go_simp
        with_reducible rfl
      rotate_left
      · simp only [Act.put, List.setIfInBounds_toArray, List.set_cons_zero, List.set_cons_succ, i64_w, i32_w]
        rfl
      refine pure_ (i := 10) (N := some 131) (v := ?_) (a' := ?_) #[true, true, true, true, true, true, true, true, true, true, true, false, false, false, false, false, false, false, false, false, false, false, false, false, false, false, false, false, false, false] rfl rfl (any_of HT_.out (by kernel_rfl)) (fun _ _ _ h => h) (Or.inl ⟨by rfl, ?_⟩) ?_ ?_
      rotate_left
      · intro w'
        go_simp
        with_reducible rfl
      rotate_left
      · simp only [Act.put, List.setIfInBounds_toArray, List.set_cons_zero, List.set_cons_succ, i64_w, i32_w]
        rfl
      refine take_ (i := 11) (N := some 132) (v := ?_) (a' := ?_) #[true, true, true, true, true, true, true, true, true, true, true, true, false, false, false, false, false, false, false, false, false, false, false, false, false, false, false, false, false, false] rfl rfl (take_ofW HT_.out HW_.out (by kernel_rfl)) (fun _ _ _ h => h) (Or.inl ⟨by rfl, ?_⟩) hHeld ?_ ?_
      rotate_left
      · rintro w' ⟨s0, s1, s2, s3, s4, s5, s6, s7, s8, s9, s10, s11, s12, s13, s14, s15, s16, s17⟩
        go_simp
        with_reducible rfl
      rotate_left
      · simp only [Act.put, List.setIfInBounds_toArray, List.set_cons_zero, List.set_cons_succ, i64_w, i32_w]
        rfl
      refine pure_ (i := 12) (N := some 133) (v := ?_) (a' := ?_) #[true, true, true, true, true, true, true, true, true, true, true, true, true, false, false, false, false, false, false, false, false, false, false, false, false, false, false, false, false, false] rfl rfl (any_of HT_.out (by kernel_rfl)) (fun _ _ _ h => h) (Or.inl ⟨by rfl, ?_⟩) ?_ ?_
      rotate_left
      · intro w'
        go_simp
        with_reducible rfl
      rotate_left
      · simp only [Act.put, List.setIfInBounds_toArray, List.set_cons_zero, List.set_cons_succ, i64_w, i32_w]
        rfl
      refine pure_ (i := 13) (N := some 134) (v := ?_) (a' := ?_) #[true, true, true, true, true, true, true, true, true, true, true, true, true, true, false, false, false, false, false, false, false, false, false, false, false, false, false, false, false, false] rfl rfl (any_of HT_.out (by kernel_rfl)) (fun _ _ _ h => h) (Or.inl ⟨by rfl, ?_⟩) ?_ ?_
      rotate_left
      · intro w'
        go_simp
        with_reducible rfl
      rotate_left
      · simp only [Act.put, List.setIfInBounds_toArray, List.set_cons_zero, List.set_cons_succ, i64_w, i32_w]
        rfl
      refine pure_ (i := 14) (N := some 135) (v := ?_) (a' := ?_) #[true, true, true, true, true, true, true, true, true, true, true, true, true, true, true, false, false, false, false, false, false, false, false, false, false, false, false, false, false, false] rfl rfl (any_of HT_.out (by kernel_rfl)) (fun _ _ _ h => h) (Or.inl ⟨by rfl, ?_⟩) ?_ ?_
      rotate_left
      · intro w'
        go_simp
        with_reducible rfl
      rotate_left
      · simp only [Act.put, List.setIfInBounds_toArray, List.set_cons_zero, List.set_cons_succ, i64_w, i32_w]
        rfl
      refine pure_ (i := 15) (N := some 136) (v := ?_) (a' := ?_) #[true, true, true, true, true, true, true, true, true, true, true, true, true, true, true, true, false, false, false, false, false, false, false, false, false, false, false, false, false, false] rfl rfl (any_of HT_.out (by kernel_rfl)) (fun _ _ _ h => h) (Or.inl ⟨by rfl, ?_⟩) ?_ ?_
      rotate_left
      · intro w'
        go_simp
        with_reducible rfl
      rotate_left
      · simp only [Act.put, List.setIfInBounds_toArray, List.set_cons_zero, List.set_cons_succ, i64_w, i32_w]
        rfl
      refine take_ (i := 16) (N := some 137) (v := ?_) (a' := ?_) #[true, true, true, true, true, true, true, true, true, true, true, true, true, true, true, true, true, false, false, false, false, false, false, false, false, false, false, false, false, false] rfl rfl (take_ofW HT_.out HW_.out (by kernel_rfl)) (fun _ _ _ h => h) (Or.inl ⟨by rfl, ?_⟩) hHeld ?_ ?_
      rotate_left
      · rintro w' ⟨s0, s1, s2, s3, s4, s5, s6, s7, s8, s9, s10, s11, s12, s13, s14, s15, s16, s17⟩
        go_simp
        with_reducible rfl
      rotate_left
      · simp only [Act.put, List.setIfInBounds_toArray, List.set_cons_zero, List.set_cons_succ, i64_w, i32_w]
        rfl
      refine pure_ (i := 17) (N := some 138) (v := ?_) (a' := ?_) #[true, true, true, true, true, true, true, true, true, true, true, true, true, true, true, true, true, true, false, false, false, false, false, false, false, false, false, false, false, false] rfl rfl (any_of HT_.out (by kernel_rfl)) (fun _ _ _ h => h) (Or.inl ⟨by rfl, ?_⟩) ?_ ?_
      rotate_left
      · intro w'
        go_simp
        with_reducible rfl
      rotate_left
      · simp only [Act.put, List.setIfInBounds_toArray, List.set_cons_zero, List.set_cons_succ, i64_w, i32_w]
        rfl
      refine pure_ (i := 18) (N := some 139) (v := ?_) (a' := ?_) #[true, true, true, true, true, true, true, true, true, true, true, true, true, true, true, true, true, true, true, false, false, false, false, false, false, false, false, false, false, false] rfl rfl (any_of HT_.out (by kernel_rfl)) (fun _ _ _ h => h) (Or.inl ⟨by rfl, ?_⟩) ?_ ?_
      rotate_left
      · intro w'
        go_simp
        with_reducible rfl
      rotate_left
      · simp only [Act.put, List.setIfInBounds_toArray, List.set_cons_zero, List.set_cons_succ, i64_w, i32_w]
        rfl
      refine pure_ (i := 19) (N := some 140) (v := ?_) (a' := ?_) #[true, true, true, true, true, true, true, true, true, true, true, true, true, true, true, true, true, true, true, true, false, false, false, false, false, false, false, false, false, false] rfl rfl (any_of HT_.out (by kernel_rfl)) (fun _ _ _ h => h) (Or.inl ⟨by rfl, ?_⟩) ?_ ?_
      rotate_left
      · intro w'
        go_simp
        with_reducible rfl
      rotate_left
      · simp only [Act.put, List.setIfInBounds_toArray, List.set_cons_zero, List.set_cons_succ, i64_w, i32_w]
        rfl
      refine pure_ (i := 20) (N := some 141) (v := ?_) (a' := ?_) #[true, true, true, true, true, true, true, true, true, true, true, true, true, true, true, true, true, true, true, true, true, false, false, false, false, false, false, false, false, false] rfl rfl (any_of HT_.out (by kernel_rfl)) (fun _ _ _ h => h) (Or.inl ⟨by rfl, ?_⟩) ?_ ?_
      rotate_left
      · intro w'
        go_simp
        with_reducible rfl
      rotate_left
      · simp only [Act.put, List.setIfInBounds_toArray, List.set_cons_zero, List.set_cons_succ, i64_w, i32_w]
        rfl
      refine take_ (i := 21) (N := some 142) (v := ?_) (a' := ?_) #[true, true, true, true, true, true, true, true, true, true, true, true, true, true, true, true, true, true, true, true, true, true, false, false, false, false, false, false, false, false] rfl rfl (take_ofW HT_.out HW_.out (by kernel_rfl)) (fun _ _ _ h => h) (Or.inl ⟨by rfl, ?_⟩) hHeld ?_ ?_
      rotate_left
      · rintro w' ⟨s0, s1, s2, s3, s4, s5, s6, s7, s8, s9, s10, s11, s12, s13, s14, s15, s16, s17⟩
        go_simp
        with_reducible rfl
      rotate_left
      · simp only [Act.put, List.setIfInBounds_toArray, List.set_cons_zero, List.set_cons_succ, i64_w, i32_w]
        rfl
      refine pure_ (i := 22) (N := some 143) (v := ?_) (a' := ?_) #[true, true, true, true, true, true, true, true, true, true, true, true, true, true, true, true, true, true, true, true, true, true, true, false, false, false, false, false, false, false] rfl rfl (any_of HT_.out (by kernel_rfl)) (fun _ _ _ h => h) (Or.inl ⟨by rfl, ?_⟩) ?_ ?_
      rotate_left
      · intro w'
        go_simp
        with_reducible rfl
      rotate_left
      · simp only [Act.put, List.setIfInBounds_toArray, List.set_cons_zero, List.set_cons_succ, i64_w, i32_w]
        rfl
      refine pure_ (i := 23) (N := some 144) (v := ?_) (a' := ?_) #[true, true, true, true, true, true, true, true, true, true, true, true, true, true, true, true, true, true, true, true, true, true, true, true, false, false, false, false, false, false] rfl rfl (any_of HT_.out (by kernel_rfl)) (fun _ _ _ h => h) (Or.inl ⟨by rfl, ?_⟩) ?_ ?_
      rotate_left
      · intro w'
        go_simp
        with_reducible rfl
      rotate_left
      · simp only [Act.put, List.setIfInBounds_toArray, List.set_cons_zero, List.set_cons_succ, i64_w, i32_w]
        rfl
      refine pure_ (i := 24) (N := some 145) (v := ?_) (a' := ?_) #[true, true, true, true, true, true, true, true, true, true, true, true, true, true, true, true, true, true, true, true, true, true, true, true, true, false, false, false, false, false] rfl rfl (any_of HT_.out (by kernel_rfl)) (fun _ _ _ h => h) (Or.inl ⟨by rfl, ?_⟩) ?_ ?_
      rotate_left
      · intro w'
        go_simp
        with_reducible rfl
      rotate_left
      · simp only [Act.put, List.setIfInBounds_toArray, List.set_cons_zero, List.set_cons_succ, i64_w, i32_w]
        rfl
      refine pure_ (i := 25) (N := some 146) (v := ?_) (a' := ?_) #[true, true, true, true, true, true, true, true, true, true, true, true, true, true, true, true, true, true, true, true, true, true, true, true, true, true, false, false, false, false] rfl rfl (any_of HT_.out (by kernel_rfl)) (fun _ _ _ h => h) (Or.inl ⟨by rfl, ?_⟩) ?_ ?_
      rotate_left
      · intro w'
        go_simp
        with_reducible rfl
      rotate_left
      · simp only [Act.put, List.setIfInBounds_toArray, List.set_cons_zero, List.set_cons_succ, i64_w, i32_w]
        rfl
      refine take_ (i := 26) (N := some 147) (v := ?_) (a' := ?_) #[true, true, true, true, true, true, true, true, true, true, true, true, true, true, true, true, true, true, true, true, true, true, true, true, true, true, true, false, false, false] rfl rfl (take_ofW HT_.out HW_.out (by kernel_rfl)) (fun _ _ _ h => h) (Or.inl ⟨by rfl, ?_⟩) hHeld ?_ ?_
      rotate_left
      · rintro w' ⟨s0, s1, s2, s3, s4, s5, s6, s7, s8, s9, s10, s11, s12, s13, s14, s15, s16, s17⟩
        go_simp
        with_reducible rfl
      rotate_left
      · simp only [Act.put, List.setIfInBounds_toArray, List.set_cons_zero, List.set_cons_succ, i64_w, i32_w]
        rfl
      refine pure_ (i := 27) (N := some 148) (v := ?_) (a' := ?_) #[true, true, true, true, true, true, true, true, true, true, true, true, true, true, true, true, true, true, true, true, true, true, true, true, true, true, true, true, false, false] rfl rfl (any_of HT_.out (by kernel_rfl)) (fun _ _ _ h => h) (Or.inl ⟨by rfl, ?_⟩) ?_ ?_
      rotate_left
      · intro w'
        go_simp
        with_reducible rfl
      rotate_left
      · simp only [Act.put, List.setIfInBounds_toArray, List.set_cons_zero, List.set_cons_succ, i64_w, i32_w]
        rfl
      refine pure_ (i := 28) (N := some 149) (v := ?_) (a' := ?_) #[true, true, true, true, true, true, true, true, true, true, true, true, true, true, true, true, true, true, true, true, true, true, true, true, true, true, true, true, true, false] rfl rfl (any_of HT_.out (by kernel_rfl)) (fun _ _ _ h => h) (Or.inl ⟨by rfl, ?_⟩) ?_ ?_
      rotate_left
      · intro w'
        go_simp
        with_reducible rfl
      rotate_left
      · simp only [Act.put, List.setIfInBounds_toArray, List.set_cons_zero, List.set_cons_succ, i64_w, i32_w]
        rfl
      refine pure_ (i := 29) (N := some 2) (v := ?_) (a' := ?_) #[true, true, true, true, true, true, true, true, true, true, true, true, true, true, true, true, true, true, true, true, true, true, true, true, true, true, true, true, true, true] rfl rfl (any_of HT_.out (by kernel_rfl)) (fun _ _ _ h => h) (Or.inl ⟨by rfl, ?_⟩) ?_ ?_
      rotate_left
      · intro w'
        go_simp
        with_reducible rfl
      rotate_left
      · simp only [Act.put, List.setIfInBounds_toArray, List.set_cons_zero, List.set_cons_succ, i64_w, i32_w]
        rfl
      refine done_ (done_of HT_.out (by kernel_rfl)) ?_
      go_wp2_with fail
      go_ret
      exact ⟨rfl, HK.out.hB⟩
end Go.Proofs.Ytnbnaflhijfamaa.FillLaw4
