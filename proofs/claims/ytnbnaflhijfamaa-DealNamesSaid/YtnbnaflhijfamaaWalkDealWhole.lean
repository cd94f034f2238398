/- The walk of the law DealWhole: it returns true for every number, deck and length of a hand; below its own memory the world stays as it was. -/
import Derived.Test.YtnbnaflhijfamaaWhichIs
namespace Go.Proofs.Ytnbnaflhijfamaa.WalkDealWhole
open Go.RowKit Go.Proofs.YtnbnaflhijfamaaW.PrintWords Go.Proofs.YtnbnaflhijfamaaW.PrintMore Go.Proofs.Ytnbnaflhijfamaa.DealMem Go.Proofs.Ytnbnaflhijfamaa.DealMath Go.Proofs.Ytnbnaflhijfamaa.DealWalk Go.Proofs.Ytnbnaflhijfamaa.HandsIs Go.Proofs.Ytnbnaflhijfamaa.DealLaws Go.Proofs.Ytnbnaflhijfamaa.WalkDealApart Go.Proofs.Ytnbnaflhijfamaa.WhichMath Go.Proofs.Ytnbnaflhijfamaa.WhichIs

theorem prodN_pos {d : Nat} : ∀ n, n ≤ d → 0 < prodN d n
  | 0, _ => Nat.one_pos
  | n + 1, h => by rw [prodN]; exact Nat.mul_pos (prodN_pos n (by omega)) (by omega)
theorem handsV_no {deck n : Int} (h : (handsV deck n).2 ≠ 0) : (handsV deck n).1 = 0 := by
  revert h
  unfold handsV
  split
  · intro _; rfl
  · split
    · intro _; rfl
    · split
      · intro _; rfl
      · intro h; exact absurd rfl h
theorem mod_u (h p : Nat) : (h : Int).tmod (p : Int) = ((h % p : Nat) : Int) := by
  rw [Int.tmod_eq_emod_of_nonneg (by omega), ← Int.natCast_emod]
theorem which_deal (h d n : Nat) (he : (handsV d n).2 = 0) : whichV (dealL h (deckL d) n) d = (((h % prodN d n : Nat) : Int), 0) := by
  obtain ⟨d', n', h1, h2, d1, d64, n1, n8, nd, hp, _⟩ := handsV_ok he
  obtain rfl : d = d' := by omega
  obtain rfl : n = n' := by omega
  have hl := dealL_length n h (deckL d)
  have H := hand_deal h d n nd
  rw [whichV_ok (by rw [hl]; exact he) ?_ ?_, hl, Int.toNat_natCast, horn_whole nd]
  · rintro ⟨i, hi, hb⟩
    rw [hl] at hi
    have a := of_decide_eq_false (H.lo i hi)
    have b := of_decide_eq_false (H.hi i hi)
    omega
  · rintro ⟨a, b, hab, hb, e⟩
    exact deal_unlike nd a b hab hb e

set_option maxHeartbeats 1000000 in
theorem walk_no (h deck n : Int) (he : (handsV deck n).2 ≠ 0) (w : World) :
    Calls Try.prog 10 #[.int .u64 h, .int .i64 deck, .int .i64 n] w fun e w' => e = .returned (.bool true) ∧ Below w.heap.size w w' := by
  have c := Aside0.mk (hands_any deck n)
  rw [handsV_no he] at c
  generalize (handsV deck n).2 = b at c he
  have t : (b != 0) = true := bne_iff_ne.mpr he
  have t2 : (b == 0) = false := beq_eq_false_iff_ne.mpr he
  clear he
  go_enter Try.func10, Try.ntmps10
  go_wp2_with fail
  refine (awake_any _).mono ?_
  rintro e w0 ⟨rfl, hB0⟩
  have HB0 := Aside0.mk hB0
  clear hB0
  go_wp2_with fail
  refine (c.out _).mono ?_
  rintro e w1 ⟨rfl, hd⟩
  have HB := Aside0.mk (below_step HB0.out hd.below)
  clear hd
  go_wp2_with fail
  go_ret
  exact ⟨rfl, HB.out⟩

set_option maxHeartbeats 2000000 in
theorem walk (h r p : Int) (d n : Nat) (L : List Int) (w : World) (n8 : n ≤ 8) (hl : L.length = n)
    (ha : Aside0 (h.tmod p = r)) (hp : (p == 0) = false) (hp2 : p ≠ 0)
    (c1 : Aside0 (∀ w, Calls Try.prog 20 #[.int .i64 (d : Int), .int .i64 (n : Int)] w fun e w' => e = .returned (.tuple #[.int .u64 p, .int .i64 0]) ∧ Drawn0 w w'))
    (c2 : Aside0 (∀ w, Calls Try.prog 18 #[.int .u64 h, .int .i64 (d : Int), .int .i64 (n : Int)] w (Dealt w L)))
    (c3 : Aside0 (∀ w, Calls Try.prog 18 #[.int .u64 r, .int .i64 (d : Int), .int .i64 (n : Int)] w (Dealt w L)))
    (c4 : Aside0 (whichV L (d : Int) = (r, 0))) :
    Calls Try.prog 10 #[.int .u64 h, .int .i64 (d : Int), .int .i64 (n : Int)] w fun e w' => e = .returned (.bool true) ∧ Below w.heap.size w w' := by
  have HL := Aside0.mk hl
  clear hl
  go_enter Try.func10, Try.ntmps10
  go_wp2_with fail
  refine (awake_any _).mono ?_
  rintro e w0 ⟨rfl, hB0⟩
  have HB0 := Aside0.mk hB0
  clear hB0
  go_wp2_with fail
  refine (c1.out _).mono ?_
  rintro e w1 ⟨rfl, hd⟩
  have HB1 := Aside0.mk (below_step HB0.out hd.below)
  clear hd HB0 c1
  go_wp2_with fail
  refine (c2.out _).mono ?_
  rintro e w2 ⟨g, rfl, hg, hb, hB⟩
  have HB2 := Aside0.mk (below_step HB1.out hB)
  have Hb2 := Aside0.mk hb
  clear hB hb HB1 hg
  rw [HL.out]
  have e1 := ha.out
  go_wp2_with fail
  clear e1
  refine (c3.out _).mono ?_
  rintro e w3 ⟨g2, rfl, hg2, hb3, hB3⟩
  have HB3 := Aside0.mk (below_step HB2.out hB3)
  have Hb3 := Aside0.mk hb3
  have Hb4 := Aside0.mk (show blkL w3 g L from blk_below Hb2.out hB3)
  clear hB3 hb3 HB2 Hb2 hg2
  rw [HL.out]
  go_wp2_with fail
  have c5 := Aside0.mk (fun w (hr : Kd.C (Kd.int .i64) w (some ⟨g, 0, none⟩) L.length L) => which_any (some ⟨g, 0, none⟩) n L (d : Int) w hr (by rw [HL.out]; exact Nat.le_refl _))
  rw [c4.out, HL.out] at c5
  have HC := Aside0.mk (blk_C Hb4.out (by rw [HL.out]; omega))
  rw [HL.out] at HC
  refine (c5.out _ HC.out).mono ?_
  rintro e w4 ⟨rfl, ⟨q, rfl⟩⟩
  have HB4 := Aside0.mk (pw_below_drewN HB3.out q)
  clear c5 HC HB3
  go_wp2_with fail
  have S := same_any (some ⟨g, 0, none⟩) (some ⟨g2, 0, none⟩) n n L (by rw [HL.out]; omega) (w3.drewN q) (blk_C (blkL_drewN Hb4.out q) (by rw [HL.out]; omega)) (by rw [HL.out]; exact Nat.le_refl _) (blk_C (blkL_drewN Hb3.out q) (by rw [HL.out]; omega)) (by rw [HL.out]; exact Nat.le_refl _)
  rw [HL.out] at S
  refine S.mono ?_
  rintro e w5 ⟨rfl, hd3⟩
  have HB5 := Aside0.mk (below_step HB4.out hd3.below)
  clear hd3 S
  have e1 := ha.out
  go_wp2_with fail
  go_ret
  exact ⟨rfl, HB5.out⟩

theorem law (h deck n : Int) (w : World) (hh : (Lit.int .u64 h).wf = true) :
    Calls Try.prog 10 #[.int .u64 h, .int .i64 deck, .int .i64 n] w fun e w' => e = .returned (.bool true) ∧ Below w.heap.size w w' := by
  by_cases he : (handsV deck n).2 = 0
  · have hh' : 0 ≤ h ∧ h < 18446744073709551616 := by
      simp [Lit.wf, IntKind.min, IntKind.max, IntKind.signed, IntKind.bits] at hh
      omega
    obtain ⟨k, rfl⟩ := Int.eq_ofNat_of_zero_le hh'.1
    have hk : k < 18446744073709551616 := by omega
    have c2 := deal_ok k deck n hk he
    have c3 := fun (j : Nat) (hj : j < 18446744073709551616) => deal_ok j deck n hj he
    have c1 := hands_any deck n
    obtain ⟨d, m, rfl, rfl, d1, d64, m1, m8, md, hp, hp2⟩ := handsV_ok he
    rw [he, hp2] at c1
    rw [Int.toNat_natCast, Int.toNat_natCast] at c2 c3
    have p0 := prodN_pos m md
    have hr := Nat.mod_lt k p0
    have c4 := c3 (k % prodN d m) (by omega)
    have e : dealL (k % prodN d m) (deckL d) m = dealL k (deckL d) m := by
      have := deal_rest m k (deckL d) (by rw [deckL_length]; exact md)
      rwa [deckL_length] at this
    rw [e] at c4
    have hw := which_deal k d m he
    exact walk k ((k % prodN d m : Nat) : Int) ((prodN d m : Nat) : Int) d m (dealL k (deckL d) m) w m8 (dealL_length _ _ _) ⟨mod_u k _⟩ (beq_eq_false_iff_ne.mpr (by omega)) (by omega) ⟨c1⟩ ⟨c2⟩ ⟨c4⟩ ⟨hw⟩
  · exact walk_no h deck n he w
end Go.Proofs.Ytnbnaflhijfamaa.WalkDealWhole
