/- The walk of the law FillAll: it returns true for every configuration. -/
import Derived.Test.YtnbnaflhijfamaaFillLaws
namespace Go.Proofs.Ytnbnaflhijfamaa.FillLaw3
open Go.RowKit Go.Proofs.YtnbnaflhijfamaaW.PrintWords Go.Proofs.YtnbnaflhijfamaaW.PrintLast Go.Proofs.YtnbnaflhijfamaaW.PrintMore Go.Proofs.Ytnbnaflhijfamaa.PFillAll Go.Proofs.Ytnbnaflhijfamaa.FillMap Go.Proofs.Ytnbnaflhijfamaa.FillWalk Go.Proofs.Ytnbnaflhijfamaa.FillIs Go.Proofs.Ytnbnaflhijfamaa.FillAwake Go.Proofs.Ytnbnaflhijfamaa.FillSmall Go.Proofs.Ytnbnaflhijfamaa.FillLaws
set_option linter.unusedVariables false
set_option linter.unusedSimpArgs false
def T7 : Bool × List (List Nat × List Nat) := (true, [([], []), ([], []), ([1], [1]), ([0, 2, 2], [0, 2]), ([3, 3], [3]), ([4], [4]), ([4], [4]), ([5, 6, 4, 4], [4, 5, 6]), ([4, 7], [4, 7]), ([8, 7, 0, 1, 2, 3, 4, 5, 6, 7, 8], [8])])
def B7 : List Nat := [0, 0, 2, 7, 15, 31, 31, 127, 255, 511]
theorem tab7 : rtab .any (opsOf Try.f3 7) = T7 := by kernel_rfl
theorem bits7 : waitsOk T7.2 B7 = true := by kernel_rfl
set_option maxHeartbeats 8000000 in
set_option maxRecDepth 100000 in
theorem law (a0 a1 a2 a3 : Int) (A4 : Option Addr) (c4 : Nat) (L : List S31) (A5 : Option Addr) (c5 : Nat) (S : List S34) (w : World) (HC : Aside0 (CC w A4 c4 A5 c5 L S)) :
    Calls Try.prog 3 #[.agg #[.int .i64 a0, .int .i64 a1, .int .i64 a2, .int .i64 a3, .slice A4 L.length c4, .slice A5 S.length c5]] w fun e w' => e = .returned (.bool true) ∧ Below w.heap.size w w' := by
  go_enter Try.func3, Try.ntmps3
  go_wp2_with (first | ((with_reducible refine gate_dst (N := 1) rfl ?_); refine box_event ?hg (N := 1) ?hd (cs := #[.int .i64 a0, .int .i64 a1, .int .i64 a2, .int .i64 a3, .slice A4 L.length c4, .slice A5 S.length c5]) (t := 25) ?hr ?_; (case hd => rfl); (case hg => rfl); (case hr => first | (go_simp; done) | (go_simp; rfl)); intro g1 hg w1 hbox hb; have HK := Aside0.mk (show Ks w w1 [(g1, #[.int .i64 a0, .int .i64 a1, .int .i64 a2, .int .i64 a3, .slice A4 L.length c4, .slice A5 S.length c5], 25)] from ⟨fun p hp => by rw [List.mem_singleton.1 hp]; exact hbox, hb⟩); replace HC := Aside0.mk (HC.out.below hb); clear hb hbox hg))
  refine (awake_any _).mono ?_
  rintro e w2 ⟨rfl, hb⟩
  replace HK := Aside0.mk (HK.out.below hb)
  replace HC := Aside0.mk (HC.out.below hb)
  clear hb
  have h1_0 : w2.cell? ⟨g1, 0, none⟩ = some (.int .i64 a0) := (blk_cell HK.out.head 0).trans rfl
  have h1_1 : w2.cell? ⟨g1, 1, none⟩ = some (.int .i64 a1) := (blk_cell HK.out.head 1).trans rfl
  have h1_2 : w2.cell? ⟨g1, 2, none⟩ = some (.int .i64 a2) := (blk_cell HK.out.head 2).trans rfl
  have h1_3 : w2.cell? ⟨g1, 3, none⟩ = some (.int .i64 a3) := (blk_cell HK.out.head 3).trans rfl
  have h1_4 : w2.cell? ⟨g1, 4, none⟩ = some (.slice A4 L.length c4) := (blk_cell HK.out.head 4).trans rfl
  have h1_5 : w2.cell? ⟨g1, 5, none⟩ = some (.slice A5 S.length c5) := (blk_cell HK.out.head 5).trans rfl
  go_wp2_with fail
  refine (small_cc a0 a1 a2 a3 A4 c4 L A5 c5 S _ HC.out).mono ?_
  rintro e w3 ⟨b, rfl, hsm, hb⟩
  replace HK := Aside0.mk (HK.out.below hb)
  replace HC := Aside0.mk (HC.out.below hb)
  clear hb h1_0 h1_1 h1_2 h1_3 h1_4 h1_5
  cases b with
  | false =>
    clear hsm
    go_wp2_with fail
    go_ret
    exact ⟨rfl, HK.out.hB⟩
  | true =>
    have HO := Aside0.mk (hsm rfl)
    have HO1 := Aside0.mk (Ok.more HO.out (by decide : 900 ≤ 1000))
    clear hsm
    have h1_0 : w3.cell? ⟨g1, 0, none⟩ = some (.int .i64 a0) := (blk_cell HK.out.head 0).trans rfl
    have h1_1 : w3.cell? ⟨g1, 1, none⟩ = some (.int .i64 a1) := (blk_cell HK.out.head 1).trans rfl
    have h1_2 : w3.cell? ⟨g1, 2, none⟩ = some (.int .i64 a2) := (blk_cell HK.out.head 2).trans rfl
    have h1_3 : w3.cell? ⟨g1, 3, none⟩ = some (.int .i64 a3) := (blk_cell HK.out.head 3).trans rfl
    have h1_4 : w3.cell? ⟨g1, 4, none⟩ = some (.slice A4 L.length c4) := (blk_cell HK.out.head 4).trans rfl
    have h1_5 : w3.cell? ⟨g1, 5, none⟩ = some (.slice A5 S.length c5) := (blk_cell HK.out.head 5).trans rfl
    go_wp2_with fail
    refine (copy_cc a0 a1 a2 a3 A4 c4 L A5 c5 S _ HC.out HO1.out).mono ?_
    rintro e w4 ⟨M4, m4, M5, m5, rfl, hcm, hb⟩
    replace HK := Aside0.mk (HK.out.below hb)
    replace HC := Aside0.mk (HC.out.below hb)
    have HM := Aside0.mk hcm
    clear hb hcm h1_0 h1_1 h1_2 h1_3 h1_4 h1_5
    go_wp2_with (first | ((with_reducible refine gate_dst (N := 12) rfl ?_); refine new_world ?_; intro w5 hbox hb; replace HK := Aside0.mk ((HK.out.below hb).cons hbox); replace HC := Aside0.mk (HC.out.below hb); replace HM := Aside0.mk (HM.out.below hb); clear hb hbox; have h3_0 : w5.cell? ⟨w4.heap.size, 0, none⟩ = some (.int .i64 a0) := (blk_cell HK.out.head 0).trans rfl; have h3_1 : w5.cell? ⟨w4.heap.size, 1, none⟩ = some (.int .i64 a1) := (blk_cell HK.out.head 1).trans rfl; have h3_2 : w5.cell? ⟨w4.heap.size, 2, none⟩ = some (.int .i64 a2) := (blk_cell HK.out.head 2).trans rfl; have h3_3 : w5.cell? ⟨w4.heap.size, 3, none⟩ = some (.int .i64 a3) := (blk_cell HK.out.head 3).trans rfl; have h3_4 : w5.cell? ⟨w4.heap.size, 4, none⟩ = some (.slice M4 L.length m4) := (blk_cell HK.out.head 4).trans rfl; have h3_5 : w5.cell? ⟨w4.heap.size, 5, none⟩ = some (.slice M5 S.length m5) := (blk_cell HK.out.head 5).trans rfl))
    refine (fill_cc a0 a1 a2 a3 M4 m4 L M5 m5 S _ HM.out HO1.out).mono ?_
    rintro e w6 ⟨D4, d4, D5, d5, rfl, -, -, hcd, hb⟩
    replace HK := Aside0.mk (HK.out.below hb)
    replace HC := Aside0.mk (HC.out.below hb)
    replace HM := Aside0.mk (HM.out.below hb)
    have HD := Aside0.mk hcd
    clear hb hcd h3_0 h3_1 h3_2 h3_3 h3_4 h3_5
    go_wp2_with fail
    have hb := below_alloc (Below.refl _ w6) (.cells #[.int .i64 (orV a0 100), .int .i64 (orV a1 10), .int .i64 (orV a2 100), .int .i64 (orV a3 10), .slice D4 (fillL L).length d4, .slice D5 (fillS S).length d5] 25)
    replace HK := Aside0.mk ((HK.out.below hb).cons (blk_new w6 (.cells #[.int .i64 (orV a0 100), .int .i64 (orV a1 10), .int .i64 (orV a2 100), .int .i64 (orV a3 10), .slice D4 (fillL L).length d4, .slice D5 (fillS S).length d5] 25)))
    replace HC := Aside0.mk (HC.out.below hb)
    replace HM := Aside0.mk (HM.out.below hb)
    replace HD := Aside0.mk (HD.out.below hb)
    clear hb
    generalize w6.alloc (.cells #[.int .i64 (orV a0 100), .int .i64 (orV a1 10), .int .i64 (orV a2 100), .int .i64 (orV a3 10), .slice D4 (fillL L).length d4, .slice D5 (fillS S).length d5] 25) = w7 at HK HC HM HD ⊢
    refine start_ (n := 10) (S := fun w' => w'.cell? ⟨w6.heap.size, 0, none⟩ = some (.int .i64 (orV a0 100)) ∧ w'.cell? ⟨w6.heap.size, 1, none⟩ = some (.int .i64 (orV a1 10)) ∧ w'.cell? ⟨w6.heap.size, 2, none⟩ = some (.int .i64 (orV a2 100)) ∧ w'.cell? ⟨w6.heap.size, 3, none⟩ = some (.int .i64 (orV a3 10)) ∧ w'.cell? ⟨w6.heap.size, 4, none⟩ = some (.slice D4 (fillL L).length d4) ∧ w'.cell? ⟨w6.heap.size, 5, none⟩ = some (.slice D5 (fillS S).length d5) ∧ w'.cell? ⟨w4.heap.size, 0, none⟩ = some (.int .i64 a0) ∧ w'.cell? ⟨w4.heap.size, 1, none⟩ = some (.int .i64 a1) ∧ w'.cell? ⟨w4.heap.size, 2, none⟩ = some (.int .i64 a2) ∧ w'.cell? ⟨w4.heap.size, 3, none⟩ = some (.int .i64 a3) ∧ w'.cell? ⟨w4.heap.size, 4, none⟩ = some (.slice M4 L.length m4) ∧ w'.cell? ⟨w4.heap.size, 5, none⟩ = some (.slice M5 S.length m5) ∧ w'.cell? ⟨g1, 0, none⟩ = some (.int .i64 a0) ∧ w'.cell? ⟨g1, 1, none⟩ = some (.int .i64 a1) ∧ w'.cell? ⟨g1, 2, none⟩ = some (.int .i64 a2) ∧ w'.cell? ⟨g1, 3, none⟩ = some (.int .i64 a3) ∧ w'.cell? ⟨g1, 4, none⟩ = some (.slice A4 L.length c4) ∧ w'.cell? ⟨g1, 5, none⟩ = some (.slice A5 S.length c5)) (ds := []) #[false, false, false, false, false, false, false, false, false, false] (by kernel_rfl) rfl rfl ⟨(blk_cell HK.out.head 0).trans rfl, (blk_cell HK.out.head 1).trans rfl, (blk_cell HK.out.head 2).trans rfl, (blk_cell HK.out.head 3).trans rfl, (blk_cell HK.out.head 4).trans rfl, (blk_cell HK.out.head 5).trans rfl, (blk_cell HK.out.tail.head 0).trans rfl, (blk_cell HK.out.tail.head 1).trans rfl, (blk_cell HK.out.tail.head 2).trans rfl, (blk_cell HK.out.tail.head 3).trans rfl, (blk_cell HK.out.tail.head 4).trans rfl, (blk_cell HK.out.tail.head 5).trans rfl, (blk_cell HK.out.tail.tail.head 0).trans rfl, (blk_cell HK.out.tail.tail.head 1).trans rfl, (blk_cell HK.out.tail.tail.head 2).trans rfl, (blk_cell HK.out.tail.tail.head 3).trans rfl, (blk_cell HK.out.tail.tail.head 4).trans rfl, (blk_cell HK.out.tail.tail.head 5).trans rfl⟩ (fun hHeld => ?_); refine with_tabW tab7 bits7 (fun HT_ HW_ => ?_)
    have hb := below_drew (Below.refl w7.heap.size w7)
    replace HK := Aside0.mk (HK.out.below hb)
    replace HC := Aside0.mk (HC.out.below hb)
    replace HM := Aside0.mk (HM.out.below hb)
    replace HD := Aside0.mk (HD.out.below hb)
    clear hb
    generalize w7.drew = w8 at HK HC HM HD hHeld ⊢
    refine take_ (i := 0) (N := some 14) (v := ?_) (a' := ?_) #[true, false, false, false, false, false, false, false, false, false] rfl rfl (take_ofW HT_.out HW_.out (by kernel_rfl)) (fun _ _ _ h => h) (Or.inl ⟨by rfl, ?_⟩) hHeld ?_ ?_
    rotate_left
    · rintro w' ⟨s0, s1, s2, s3, s4, s5, s6, s7, s8, s9, s10, s11, s12, s13, s14, s15, s16, s17⟩
      go_simp
      with_reducible rfl
    rotate_left
    · simp only [Act.put, List.setIfInBounds_toArray, List.set_cons_zero, List.set_cons_succ, i64_w, i32_w]
      rfl
    refine take_ (i := 1) (N := some 15) (v := ?_) (a' := ?_) #[true, true, false, false, false, false, false, false, false, false] rfl rfl (take_ofW HT_.out HW_.out (by kernel_rfl)) (fun _ _ _ h => h) (Or.inl ⟨by rfl, ?_⟩) hHeld ?_ ?_
    rotate_left
    · rintro w' ⟨s0, s1, s2, s3, s4, s5, s6, s7, s8, s9, s10, s11, s12, s13, s14, s15, s16, s17⟩
      go_simp
      with_reducible rfl
    rotate_left
    · simp only [Act.put, List.setIfInBounds_toArray, List.set_cons_zero, List.set_cons_succ, i64_w, i32_w]
      rfl
    refine one_ (i := 2) (N := some 16) #[true, true, true, false, false, false, false, false, false, false] rfl rfl (one_of HT_.out (by kernel_rfl)) (by decide) (fun K hK => ?_)
    refine goes_ Try.func16 (by kernel_rfl) rfl #[.agg #[.int .i64 a0, .int .i64 a1, .int .i64 a2, .int .i64 a3, .slice A4 L.length c4, .slice A5 S.length c5]] (by rfl) rfl rfl (by (try simp only [List.map_toArray, List.map_cons, List.map_nil]); first | done | rfl) ?_
    refine (ref_any a0 a1 a2 a3 A4 c4 L A5 c5 S _ HC.out HO1.out).mono ?_
    rintro e w9 ⟨R4, r4, R5, r5, rfl, hcr, hb⟩
    refine ⟨_, rfl, ?_⟩
    replace HK := Aside0.mk (HK.out.below hb)
    replace HC := Aside0.mk (HC.out.below hb)
    replace HM := Aside0.mk (HM.out.below hb)
    replace HD := Aside0.mk (HD.out.below hb)
    have HR := Aside0.mk hcr
    clear hb hcr
    refine hK.out _ _ ⟨(blk_cell HK.out.head 0).trans rfl, (blk_cell HK.out.head 1).trans rfl, (blk_cell HK.out.head 2).trans rfl, (blk_cell HK.out.head 3).trans rfl, (blk_cell HK.out.head 4).trans rfl, (blk_cell HK.out.head 5).trans rfl, (blk_cell HK.out.tail.head 0).trans rfl, (blk_cell HK.out.tail.head 1).trans rfl, (blk_cell HK.out.tail.head 2).trans rfl, (blk_cell HK.out.tail.head 3).trans rfl, (blk_cell HK.out.tail.head 4).trans rfl, (blk_cell HK.out.tail.head 5).trans rfl, (blk_cell HK.out.tail.tail.head 0).trans rfl, (blk_cell HK.out.tail.tail.head 1).trans rfl, (blk_cell HK.out.tail.tail.head 2).trans rfl, (blk_cell HK.out.tail.tail.head 3).trans rfl, (blk_cell HK.out.tail.tail.head 4).trans rfl, (blk_cell HK.out.tail.tail.head 5).trans rfl⟩ (fun hHeld => ?_)
    clear hK K
    refine norm_ (a' := ?_) ?_ ?_
    rotate_left
    · show Act.put _ (some 16) _ = _
      simp only [Act.put, List.setIfInBounds_toArray, List.set_cons_zero, List.set_cons_succ, i64_w, i32_w]
      rfl
    refine one_ (i := 3) (N := some 17) #[true, true, true, true, false, false, false, false, false, false] rfl rfl (one_of HT_.out (by kernel_rfl)) (by decide) (fun K hK => ?_)
    refine goes_ Try.func15 (by kernel_rfl) rfl #[.agg #[.int .i64 (orV a0 100), .int .i64 (orV a1 10), .int .i64 (orV a2 100), .int .i64 (orV a3 10), .slice D4 (fillL L).length d4, .slice D5 (fillS S).length d5], .agg #[.int .i64 (orV a0 100), .int .i64 (orV a1 10), .int .i64 (orV a2 100), .int .i64 (orV a3 10), .slice R4 (fillL L).length r4, .slice R5 (fillS S).length r5]] (by rfl) rfl rfl (by (try simp only [List.map_toArray, List.map_cons, List.map_nil]); first | done | rfl) ?_
    refine (same_cc (orV a0 100) (orV a1 10) (orV a2 100) (orV a3 10) D4 R4 d4 r4 (fillL L) D5 R5 d5 r5 (fillS S) _ HD.out HR.out (Ok.more (Ok.fill HO.out) (by decide : 902 ≤ 1000))).mono ?_
    rintro e w10 ⟨rfl, hb⟩
    refine ⟨_, rfl, ?_⟩
    replace HK := Aside0.mk (HK.out.below hb)
    replace HC := Aside0.mk (HC.out.below hb)
    replace HM := Aside0.mk (HM.out.below hb)
    replace HD := Aside0.mk (HD.out.below hb)
    clear hb HR
    refine hK.out _ _ ⟨(blk_cell HK.out.head 0).trans rfl, (blk_cell HK.out.head 1).trans rfl, (blk_cell HK.out.head 2).trans rfl, (blk_cell HK.out.head 3).trans rfl, (blk_cell HK.out.head 4).trans rfl, (blk_cell HK.out.head 5).trans rfl, (blk_cell HK.out.tail.head 0).trans rfl, (blk_cell HK.out.tail.head 1).trans rfl, (blk_cell HK.out.tail.head 2).trans rfl, (blk_cell HK.out.tail.head 3).trans rfl, (blk_cell HK.out.tail.head 4).trans rfl, (blk_cell HK.out.tail.head 5).trans rfl, (blk_cell HK.out.tail.tail.head 0).trans rfl, (blk_cell HK.out.tail.tail.head 1).trans rfl, (blk_cell HK.out.tail.tail.head 2).trans rfl, (blk_cell HK.out.tail.tail.head 3).trans rfl, (blk_cell HK.out.tail.tail.head 4).trans rfl, (blk_cell HK.out.tail.tail.head 5).trans rfl⟩ (fun hHeld => ?_)
    clear hK K
    refine norm_ (a' := ?_) ?_ ?_
    rotate_left
    · show Act.put _ (some 17) _ = _
      simp only [Act.put, List.setIfInBounds_toArray, List.set_cons_zero, List.set_cons_succ, i64_w, i32_w]
      rfl
    refine pure_ (i := 4) (N := some 18) (v := ?_) (a' := ?_) #[true, true, true, true, true, false, false, false, false, false] rfl rfl (any_of HT_.out (by kernel_rfl)) (fun _ _ _ h => h) (Or.inl ⟨by rfl, ?_⟩) ?_ ?_
    rotate_left
    · intro w'
      go_simp
      with_reducible rfl
    rotate_left
    · simp only [Act.put, List.setIfInBounds_toArray, List.set_cons_zero, List.set_cons_succ, i64_w, i32_w]
      rfl
    refine take_ (i := 5) (N := some 19) (v := ?_) (a' := ?_) #[true, true, true, true, true, true, false, false, false, false] rfl rfl (take_ofW HT_.out HW_.out (by kernel_rfl)) (fun _ _ _ h => h) (Or.inl ⟨by rfl, ?_⟩) hHeld ?_ ?_
    rotate_left
    · rintro w' ⟨s0, s1, s2, s3, s4, s5, s6, s7, s8, s9, s10, s11, s12, s13, s14, s15, s16, s17⟩
      go_simp
      with_reducible rfl
    rotate_left
    · simp only [Act.put, List.setIfInBounds_toArray, List.set_cons_zero, List.set_cons_succ, i64_w, i32_w]
      rfl
    refine take_ (i := 6) (N := some 20) (v := ?_) (a' := ?_) #[true, true, true, true, true, true, true, false, false, false] rfl rfl (take_ofW HT_.out HW_.out (by kernel_rfl)) (fun _ _ _ h => h) (Or.inl ⟨by rfl, ?_⟩) hHeld ?_ ?_
    rotate_left
    · rintro w' ⟨s0, s1, s2, s3, s4, s5, s6, s7, s8, s9, s10, s11, s12, s13, s14, s15, s16, s17⟩
      go_simp
      with_reducible rfl
    rotate_left
    · simp only [Act.put, List.setIfInBounds_toArray, List.set_cons_zero, List.set_cons_succ, i64_w, i32_w]
      rfl
    refine one_ (i := 7) (N := some 21) #[true, true, true, true, true, true, true, true, false, false] rfl rfl (one_of HT_.out (by kernel_rfl)) (by decide) (fun K hK => ?_)
    refine goes_ Try.func15 (by kernel_rfl) rfl #[.agg #[.int .i64 a0, .int .i64 a1, .int .i64 a2, .int .i64 a3, .slice M4 L.length m4, .slice M5 S.length m5], .agg #[.int .i64 a0, .int .i64 a1, .int .i64 a2, .int .i64 a3, .slice A4 L.length c4, .slice A5 S.length c5]] (by rfl) rfl rfl (by (try simp only [List.map_toArray, List.map_cons, List.map_nil]); first | done | rfl) ?_
    refine (same_cc a0 a1 a2 a3 M4 A4 m4 c4 L M5 A5 m5 c5 S _ HM.out HC.out HO1.out).mono ?_
    rintro e w11 ⟨rfl, hb⟩
    refine ⟨_, rfl, ?_⟩
    replace HK := Aside0.mk (HK.out.below hb)
    replace HC := Aside0.mk (HC.out.below hb)
    replace HM := Aside0.mk (HM.out.below hb)
    replace HD := Aside0.mk (HD.out.below hb)
    clear hb
    refine hK.out _ _ ⟨(blk_cell HK.out.head 0).trans rfl, (blk_cell HK.out.head 1).trans rfl, (blk_cell HK.out.head 2).trans rfl, (blk_cell HK.out.head 3).trans rfl, (blk_cell HK.out.head 4).trans rfl, (blk_cell HK.out.head 5).trans rfl, (blk_cell HK.out.tail.head 0).trans rfl, (blk_cell HK.out.tail.head 1).trans rfl, (blk_cell HK.out.tail.head 2).trans rfl, (blk_cell HK.out.tail.head 3).trans rfl, (blk_cell HK.out.tail.head 4).trans rfl, (blk_cell HK.out.tail.head 5).trans rfl, (blk_cell HK.out.tail.tail.head 0).trans rfl, (blk_cell HK.out.tail.tail.head 1).trans rfl, (blk_cell HK.out.tail.tail.head 2).trans rfl, (blk_cell HK.out.tail.tail.head 3).trans rfl, (blk_cell HK.out.tail.tail.head 4).trans rfl, (blk_cell HK.out.tail.tail.head 5).trans rfl⟩ (fun hHeld => ?_)
    clear hK K
    refine norm_ (a' := ?_) ?_ ?_
    rotate_left
    · show Act.put _ (some 21) _ = _
      simp only [Act.put, List.setIfInBounds_toArray, List.set_cons_zero, List.set_cons_succ, i64_w, i32_w]
      rfl
    refine pure_ (i := 8) (N := some 22) (v := ?_) (a' := ?_) #[true, true, true, true, true, true, true, true, true, false] rfl rfl (any_of HT_.out (by kernel_rfl)) (fun _ _ _ h => h) (Or.inl ⟨by rfl, ?_⟩) ?_ ?_
    rotate_left
    · intro w'
      go_simp
      with_reducible rfl
    rotate_left
    · simp only [Act.put, List.setIfInBounds_toArray, List.set_cons_zero, List.set_cons_succ, i64_w, i32_w]
      rfl
    refine pure_ (i := 9) (N := some 2) (v := ?_) (a' := ?_) #[true, true, true, true, true, true, true, true, true, true] rfl rfl (any_of HT_.out (by kernel_rfl)) (fun _ _ _ h => h) (Or.inl ⟨by rfl, ?_⟩) ?_ ?_
    rotate_left
    · intro w'
      go_simp
      with_reducible rfl
    rotate_left
    · simp only [Act.put, List.setIfInBounds_toArray, List.set_cons_zero, List.set_cons_succ, i64_w, i32_w]
      rfl
    refine done_ (done_of HT_.out (by kernel_rfl)) ?_
    go_wp2_with fail
    go_ret
    exact ⟨rfl, HK.out.hB⟩
end Go.Proofs.Ytnbnaflhijfamaa.FillLaw3
