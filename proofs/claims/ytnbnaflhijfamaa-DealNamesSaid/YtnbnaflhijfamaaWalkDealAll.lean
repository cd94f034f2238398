/- The walk of the law DealAll: it returns true for every number, deck and length of a hand; below its own memory the world stays as it was. -/
import Derived.Test.YtnbnaflhijfamaaRefIs
namespace Go.Proofs.Ytnbnaflhijfamaa.WalkDealAll
open Go.RowKit Go.Proofs.YtnbnaflhijfamaaW.PrintWords Go.Proofs.YtnbnaflhijfamaaW.PrintMore Go.Proofs.Ytnbnaflhijfamaa.DealMem Go.Proofs.Ytnbnaflhijfamaa.DealMath Go.Proofs.Ytnbnaflhijfamaa.DealWalk Go.Proofs.Ytnbnaflhijfamaa.HandsIs Go.Proofs.Ytnbnaflhijfamaa.DealLaws Go.Proofs.Ytnbnaflhijfamaa.RefIs

theorem ref_deal_row (h : Nat) (deck n : Int) (hh : h < 18446744073709551616) (he : (handsV deck n).2 = 0) (w : World) :
    Calls Try.prog 19 #[.int .u64 h, .int .i64 deck, .int .i64 n] w fun e w' => ∃ A c, e = .returned (.tuple #[.slice A n.toNat c, .int .i64 0]) ∧ n.toNat ≤ c ∧ Kd.C (Kd.int .i64) w' A n.toNat (dealL h (deckL deck.toNat) n.toNat) ∧ Below w.heap.size w w' := by
  refine (ref_deal_ok h deck n hh he w).mono ?_
  rintro e w' ⟨v, rfl, ho, hB⟩
  obtain ⟨A, c, rfl, hc, hr⟩ := own_reads_of_le (enc := Value.int .i64) (d := 0) (xs := dealL h (deckL deck.toNat) n.toNat) ho
  exact ⟨A, c, rfl, hc, Kd.C_of_reads (h1 := fun _ => rfl) hr, hB⟩

set_option maxHeartbeats 1000000 in
theorem walk_no (h deck n : Int) (he : (handsV deck n).2 ≠ 0) (w : World) :
    Calls Try.prog 6 #[.int .u64 h, .int .i64 deck, .int .i64 n] w fun e w' => e = .returned (.bool true) ∧ Below w.heap.size w w' := by
  have c := Aside0.mk (hands_any deck n)
  have c' := Aside0.mk (ref_hands_any deck n)
  have c1 := Aside0.mk (deal_no h deck n he)
  have c2 := Aside0.mk (ref_deal_no h deck n he)
  have S := Aside0.mk (same_any none none 0 0 [] (by decide))
  generalize (handsV deck n).1 = a at c c'
  generalize (handsV deck n).2 = b at c c' c1 c2
  clear he
  go_enter Try.func6, Try.ntmps6
  go_wp2_with fail
  refine (awake_any _).mono ?_
  rintro e w0 ⟨rfl, hB0⟩
  have HB0 := Aside0.mk hB0
  clear hB0
  go_wp2_with fail
  refine (c1.out _).mono ?_
  rintro e w1 ⟨rfl, hd⟩
  have HB1 := Aside0.mk (below_step HB0.out hd.below)
  clear hd HB0
  go_wp2_with fail
  refine (c2.out _).mono ?_
  rintro e w2 ⟨rfl, hd⟩
  have HB2 := Aside0.mk (below_step HB1.out hd.below)
  clear hd HB1
  go_wp2_with fail
  refine (c.out _).mono ?_
  rintro e w3 ⟨rfl, hd⟩
  have HB3 := Aside0.mk (below_step HB2.out hd.below)
  clear hd HB2
  go_wp2_with fail
  refine (c'.out _).mono ?_
  rintro e w4 ⟨rfl, hd⟩
  have HB4 := Aside0.mk (below_step HB3.out hd.below)
  clear hd HB3
  go_wp2_with fail
  refine (S.out _ (Kd.C_nil _ _) (Nat.le_refl _) (Kd.C_nil _ _) (Nat.le_refl _)).mono ?_
  rintro e w5 ⟨rfl, hd⟩
  have HB5 := Aside0.mk (below_step HB4.out hd.below)
  clear hd HB4
  go_wp2_with fail
  go_ret
  exact ⟨rfl, HB5.out⟩

set_option maxHeartbeats 2000000 in
theorem walk (h p : Int) (d n : Nat) (L : List Int) (w : World) (n8 : n ≤ 8) (hl : L.length = n)
    (c1 : Aside0 (∀ w, Calls Try.prog 18 #[.int .u64 h, .int .i64 (d : Int), .int .i64 (n : Int)] w (Dealt w L)))
    (c2 : Aside0 (∀ w, Calls Try.prog 19 #[.int .u64 h, .int .i64 (d : Int), .int .i64 (n : Int)] w fun e w' => ∃ A c, e = .returned (.tuple #[.slice A n c, .int .i64 0]) ∧ n ≤ c ∧ Kd.C (Kd.int .i64) w' A n L ∧ Below w.heap.size w w'))
    (c3 : Aside0 (∀ w, Calls Try.prog 20 #[.int .i64 (d : Int), .int .i64 (n : Int)] w fun e w' => e = .returned (.tuple #[.int .u64 p, .int .i64 0]) ∧ Drawn0 w w'))
    (c4 : Aside0 (∀ w, Calls Try.prog 21 #[.int .i64 (d : Int), .int .i64 (n : Int)] w fun e w' => e = .returned (.tuple #[.int .u64 p, .int .i64 0]) ∧ Drawn0 w w')) :
    Calls Try.prog 6 #[.int .u64 h, .int .i64 (d : Int), .int .i64 (n : Int)] w fun e w' => e = .returned (.bool true) ∧ Below w.heap.size w w' := by
  have HL := Aside0.mk hl
  clear hl
  go_enter Try.func6, Try.ntmps6
  go_wp2_with fail
  refine (awake_any _).mono ?_
  rintro e w0 ⟨rfl, hB0⟩
  have HB0 := Aside0.mk hB0
  clear hB0
  go_wp2_with fail
  refine (c1.out _).mono ?_
  rintro e w2 ⟨g, rfl, hg, hb, hB⟩
  have HB2 := Aside0.mk (below_step HB0.out hB)
  have Hb2 := Aside0.mk hb
  clear hB hb hg HB0
  rw [HL.out]
  go_wp2_with fail
  refine (c2.out _).mono ?_
  rintro e w3 ⟨A, c, rfl, hc, hC, hB⟩
  have HC3 := Aside0.mk hC
  have HB3 := Aside0.mk (below_step HB2.out hB)
  have Hb3 := Aside0.mk (show blkL w3 g L from blk_below Hb2.out hB)
  have hC2 := Aside0.mk hc
  clear hB hC hc HB2 Hb2
  go_wp2_with fail
  refine (c3.out _).mono ?_
  rintro e w4 ⟨rfl, ⟨q, rfl⟩⟩
  go_wp2_with fail
  refine (c4.out _).mono ?_
  rintro e w5 ⟨rfl, ⟨q2, rfl⟩⟩
  have HB5 := Aside0.mk (pw_below_drewN (pw_below_drewN HB3.out q) q2)
  have Hb5 := Aside0.mk (blkL_drewN (blkL_drewN Hb3.out q) q2)
  have HC5 := Aside0.mk (Kd.C_drewN (Kd.C_drewN HC3.out q) q2)
  generalize (w3.drewN q).drewN q2 = W at HB5 Hb5 HC5 ⊢
  clear HB3 Hb3 HC3
  go_wp2_with fail
  have S := same_any (some ⟨g, 0, none⟩) A n c L (by rw [HL.out]; omega) W (blk_C Hb5.out (by rw [HL.out]; omega)) (by rw [HL.out]; exact Nat.le_refl _) (by rw [HL.out]; exact HC5.out) (by rw [HL.out]; exact hC2.out)
  rw [HL.out] at S
  refine S.mono ?_
  rintro e w6 ⟨rfl, hd3⟩
  have HB6 := Aside0.mk (below_step HB5.out hd3.below)
  clear hd3 S
  go_wp2_with fail
  go_ret
  exact ⟨rfl, HB6.out⟩

theorem law (h deck n : Int) (w : World) (hh : (Lit.int .u64 h).wf = true) :
    Calls Try.prog 6 #[.int .u64 h, .int .i64 deck, .int .i64 n] w fun e w' => e = .returned (.bool true) ∧ Below w.heap.size w w' := by
  by_cases he : (handsV deck n).2 = 0
  · have hh' : 0 ≤ h ∧ h < 18446744073709551616 := by
      simp [Lit.wf, IntKind.min, IntKind.max, IntKind.signed, IntKind.bits] at hh
      omega
    obtain ⟨k, rfl⟩ := Int.eq_ofNat_of_zero_le hh'.1
    have hk : k < 18446744073709551616 := by omega
    have c1 := deal_ok k deck n hk he
    have c2 := ref_deal_row k deck n hk he
    have c3 := hands_any deck n
    have c4 := ref_hands_any deck n
    rw [he] at c3 c4
    obtain ⟨d, m, rfl, rfl, d1, d64, m1, m8, md, hp, hp2⟩ := handsV_ok he
    rw [Int.toNat_natCast, Int.toNat_natCast] at c1
    simp only [Int.toNat_natCast] at c2
    exact walk k _ d m (dealL k (deckL d) m) w m8 (dealL_length _ _ _) ⟨c1⟩ ⟨c2⟩ ⟨c3⟩ ⟨c4⟩
  · exact walk_no h deck n he w
end Go.Proofs.Ytnbnaflhijfamaa.WalkDealAll
