/- The contract of the reference's Which at any hand; no condition beyond the sizes that it names. -/
import Derived.Test.YtnbnaflhijfamaaGoneMem
namespace Go.Proofs.Ytnbnaflhijfamaa.RefWhich
open Go.RowKit Go.Proofs.YtnbnaflhijfamaaW.PrintWords Go.Proofs.YtnbnaflhijfamaaW.PrintMore Go.Proofs.Ytnbnaflhijfamaa.DealMath Go.Proofs.Ytnbnaflhijfamaa.HandsIs Go.Proofs.Ytnbnaflhijfamaa.WhichWalk Go.Proofs.Ytnbnaflhijfamaa.WhichMath Go.Proofs.Ytnbnaflhijfamaa.WhichIs Go.Proofs.Ytnbnaflhijfamaa.GoneMath Go.Proofs.Ytnbnaflhijfamaa.GoneMem

set_option maxHeartbeats 1000000 in
theorem err (A : Option Addr) (n c : Nat) (deck : Int) (w : World) (he : (handsV deck n).2 ≠ 0) :
    Calls Try.prog 25 #[.slice A n c, .int .i64 deck] w fun e w' => e = .returned (.tuple #[.int .u64 0, .int .i64 (handsV deck n).2]) ∧ Below w.heap.size w w' := by
  have h := Aside0.mk (ref_hands_any deck n)
  generalize (handsV deck n).1 = a at h
  generalize (handsV deck n).2 = b at h he ⊢
  have t : (b != 0) = true := bne_iff_ne.mpr he
  have t2 : (b == 0) = false := beq_eq_false_iff_ne.mpr he
  clear he
  go_enter Try.func25, Try.ntmps25
  go_wp2_with (go_at_call 21; (with_reducible refine (h.out _).mono ?_); rintro e w' ⟨rfl, ⟨nw, rfl⟩⟩)
  go_ret2
  exact ⟨rfl, pw_below_drewN (Below.refl _ _) _⟩

set_option maxHeartbeats 2000000 in
theorem range (ad : Addr) (n c : Nat) (L : List Int) (deck : Int) (w : World) (hn : n ≤ 64) (hcell : Aside0 (∀ i, i < n → w.cell? (ad.add i) = some (.int .i64 (L.getD i 0))))
    (he : (handsV deck n).2 = 0) (m : Nat) (hm : m < n) (hbad : L.getD m 0 < 0 ∨ deck ≤ L.getD m 0) :
    Calls Try.prog 25 #[.slice (some ad) n c, .int .i64 deck] w fun e w' => e = .returned (.tuple #[.int .u64 0, .int .i64 8]) ∧ Below w.heap.size w w' := by
  have h := Aside0.mk (ref_hands_any deck n)
  rw [he] at h
  generalize (handsV deck n).1 = a at h
  clear he
  have Hbad := Aside0.mk hbad
  clear hbad
  go_enter Try.func25, Try.ntmps25
  go_wp2_with (go_at_call 21; (with_reducible refine (h.out _).mono ?_); rintro e w' ⟨rfl, ⟨nw, rfl⟩⟩)
  go_loopw [8] (fun s wr => (∃ k : Nat, k ≤ m ∧ s = .int .i64 k) ∧ Drawn0 w wr) (fun s _ => n - (intOf s).toNat)
  case atStart => exact ⟨⟨0, by omega, rfl⟩, by repeat (first | exact Drawn0.refl _ | apply Drawn0.step)⟩
  case round =>
    obtain ⟨⟨k, hk, rfl⟩, ⟨q, rfl⟩⟩ := hrel
    have hl : decide ((k : Int) < (n : Int)) = true := decide_eq_true (by omega)
    have hk' : (k : Int) < (n : Int) := by omega
    have ck := hcell.out k (by omega)
    by_cases b1 : L.getD k 0 < 0
    · have t1 : decide (L.getD k 0 < 0) = true := decide_eq_true b1
      clear Hbad b1
      generalize L.getD k 0 = x at *
      go_wp2_with fail
      go_ret2
      exact ⟨rfl, pw_below_drewN (Below.refl _ _) _⟩
    · have t1 : decide (L.getD k 0 < 0) = false := decide_eq_false b1
      by_cases b2 : deck ≤ L.getD k 0
      · have t2 : decide (deck ≤ L.getD k 0) = true := decide_eq_true b2
        clear Hbad b1 b2
        generalize L.getD k 0 = x at *
        go_wp2_with fail
        go_ret2
        exact ⟨rfl, pw_below_drewN (Below.refl _ _) _⟩
      · have t2 : decide (deck ≤ L.getD k 0) = false := decide_eq_false b2
        have km : k ≠ m := by rintro rfl; rcases Hbad.out with h | h; exact b1 h; exact b2 h
        have km' : k + 1 ≤ m := by omega
        clear Hbad b1 b2 km
        generalize L.getD k 0 = x at *
        go_wp2_with fail
        go_roundw
        case rel => exact ⟨⟨k + 1, km', by go_num⟩, by repeat (first | exact Drawn0.refl _ | apply Drawn0.step)⟩
        case measure => simp [intOf]; omega

/-- The number and the worth behind so many cards, as the reference counts them. -/
def valV (L : List Int) (d : Nat) : Nat → Int × Int
  | 0 => (0, 1)
  | i + 1 => (IntKind.u64.wrap ((valV L d i).1 + IntKind.u64.wrap ((cntS (L.take i) (L.getD i 0).toNat : Int) * (valV L d i).2)), IntKind.u64.wrap ((valV L d i).2 * IntKind.u64.wrap ((d : Int) - (i : Int))))

set_option maxHeartbeats 4000000 in
theorem told (ad : Addr) (n c d b : Nat) (L : List Int) (w : World) (n8 : n ≤ 8) (d64 : d ≤ 64) (hlen : Aside0 (L.length = n)) (bn : b ≤ n)
    (hcell : Aside0 (∀ W, Below w.heap.size w W → ∀ i, i < n → W.cell? (ad.add i) = some (.int .i64 (L.getD i 0))))
    (he : (handsV d n).2 = 0) (hr : Aside0 (∀ i, i < n → 0 ≤ L.getD i 0 ∧ L.getD i 0 < (d : Int)))
    (hfree : Aside0 (∀ i, i < b → ¬ (L.getD i 0 ∈ L.take i))) (hdup : Aside0 (b < n → L.getD b 0 ∈ L.take b)) (R1 R2 : Int) (hR : Aside0 (b < n → R1 = 0 ∧ R2 = 5)) (hR2 : Aside0 (n = b → R1 = (valV L d n).1 ∧ R2 = 0)) :
    Calls Try.prog 25 #[.slice (some ad) n c, .int .i64 (d : Int)] w fun e w' => e = .returned (.tuple #[.int .u64 R1, .int .i64 R2]) ∧ Below w.heap.size w w' := by
  have h := Aside0.mk (ref_hands_any d n)
  rw [he] at h
  generalize (handsV (d : Int) n).1 = a at h
  clear he
  go_enter Try.func25, Try.ntmps25
  go_wp2_with (go_at_call 21; (with_reducible refine (h.out _).mono ?_); rintro e w' ⟨rfl, ⟨nw, rfl⟩⟩)
  clear h
  go_loopw [8] (fun s wr => (∃ k : Nat, k ≤ n ∧ s = .int .i64 k) ∧ Drawn0 w wr) (fun s _ => n - (intOf s).toNat)
  case atStart => exact ⟨⟨0, by omega, rfl⟩, by repeat (first | exact Drawn0.refl _ | apply Drawn0.step)⟩
  case round =>
    obtain ⟨⟨k, hk, rfl⟩, ⟨q, rfl⟩⟩ := hrel
    by_cases hkn : k < n
    · have hl : decide ((k : Int) < (n : Int)) = true := decide_eq_true (by omega)
      have hk' : (k : Int) < (n : Int) := by omega
      have ck := hcell.out w (Below.refl _ _) k hkn
      have hx := hr.out k hkn
      have t1 : decide (L.getD k 0 < 0) = false := decide_eq_false (by omega)
      have t2 : decide ((d : Int) ≤ L.getD k 0) = false := decide_eq_false (by omega)
      clear hx
      generalize L.getD k 0 = x at ck t1 t2
      go_wp2_with fail
      go_roundw
      case rel => exact ⟨⟨k + 1, by omega, by go_num⟩, by repeat (first | exact Drawn0.refl _ | apply Drawn0.step)⟩
      case measure => simp [intOf]; omega
    · obtain rfl : n = k := by omega
      have hl : decide ((n : Int) < (n : Int)) = false := decide_eq_false (by omega)
      go_wp2_with fail
      obtain ⟨o, ho⟩ : ∃ o : Array Value, o = ((goneL []).map Value.bool).toArray := ⟨_, rfl⟩
      have hb0 := Aside0.mk (blkB_new (w := w.drewN q) ho)
      have HB0 := Aside0.mk (below_alloc (pw_below_drewN (Below.refl w.heap.size w) q) (.cells o 66))
      rw [goneL_nil, zeros64] at ho
      simp only [List.replicate] at ho
      subst ho
      go_loopw [10, 11, 12] (fun s10 s11 s12 wr => ∃ i : Nat, i ≤ b ∧ s12 = .int .i64 i ∧ s10 = .int .u64 (valV L d i).1 ∧ s11 = .int .u64 (valV L d i).2 ∧ blkB wr w.heap.size (L.take i) ∧ Below w.heap.size w wr) (fun _ _ s _ => n - (intOf s).toNat)
      case atStart => exact ⟨0, by omega, rfl, rfl, rfl, by rw [List.take_zero]; exact hb0.out, HB0.out⟩
      case round =>
        clear hb0 HB0
        obtain ⟨i, hi, rfl, rfl, rfl, hb, hB⟩ := hrel
        have Hb := Aside0.mk hb
        have HB := Aside0.mk hB
        clear hb hB
        by_cases hin : i < n
        · have hl2 : decide ((i : Int) < (n : Int)) = true := decide_eq_true (by omega)
          have hin' : (i : Int) < (n : Int) := by omega
          have ci := hcell.out wr HB.out i hin
          have hx := hr.out i hin
          obtain ⟨x, hx2⟩ := Int.eq_ofNat_of_zero_le hx.1
          have cx := blkB_cell Hb.out (show x < 64 by omega)
          have x64 : (x : Int) < 64 := by omega
          rw [← hx2] at cx
          by_cases hib : i < b
          · have hnot := hfree.out i hib
            have g0 : decide (L.getD i 0 ∈ L.take i) = false := decide_eq_false hnot
            have Hv : Aside0 ((valV L d (i + 1)).1 = IntKind.u64.wrap ((valV L d i).1 + IntKind.u64.wrap ((cntS (L.take i) (L.getD i 0).toNat : Int) * (valV L d i).2))) := ⟨rfl⟩
            have Hw : Aside0 ((valV L d (i + 1)).2 = IntKind.u64.wrap ((valV L d i).2 * IntKind.u64.wrap ((d : Int) - (i : Int)))) := ⟨rfl⟩
            rw [g0] at cx
            rw [hx2] at ci Hv hx
            rw [Int.toNat_natCast] at Hv
            have Hx2 := Aside0.mk hx2
            have Htk := Aside0.mk (take_next (L := L) (i := i) (by rw [hlen.out]; exact hin))
            rw [hx2] at Htk
            clear g0 hnot hx2
            generalize (valV L d i).1 = v1 at Hv ⊢
            generalize (valV L d i).2 = v2 at Hv Hw ⊢
            generalize L.take i = S at *
            go_wp2_with fail
            go_loopw [13, 14] (fun s13 s14 w2 => (∃ c : Nat, c ≤ x ∧ s14 = .int .i64 c ∧ s13 = .int .u64 (cntS S c : Int)) ∧ Drawn0 wr w2) (fun _ s _ => d - (intOf s).toNat)
            case atStart => exact ⟨⟨0, by omega, rfl, rfl⟩, by repeat (first | exact Drawn0.refl _ | apply Drawn0.step)⟩
            case round =>
              obtain ⟨⟨j, hj, rfl, rfl⟩, ⟨q2, rfl⟩⟩ := hrel
              by_cases hjx : j < x
              · have hl3 : decide ((j : Int) < (x : Int)) = true := decide_eq_true (by omega)
                have j64 : (j : Int) < 64 := by omega
                have cj := blkB_cell Hb.out (show j < 64 by omega)
                have hle := cnt_le S j
                by_cases hg : (j : Int) ∈ S
                · have g0 : decide ((j : Int) ∈ S) = true := decide_eq_true hg
                  rw [g0] at cj
                  have hn : cntS S (j + 1) = cntS S j := by simp [cntS, hg]
                  clear g0
                  generalize cntS S j = k at hn hle ⊢
                  go_wp2_with fail
                  go_roundw
                  case rel => exact ⟨⟨j + 1, by omega, by go_num, by rw [hn]⟩, by repeat (first | exact Drawn0.refl _ | apply Drawn0.step)⟩
                  case measure => simp [intOf]; omega
                · have g0 : decide ((j : Int) ∈ S) = false := decide_eq_false hg
                  rw [g0] at cj
                  have hn : cntS S (j + 1) = cntS S j + 1 := by simp [cntS, hg]
                  clear g0
                  generalize cntS S j = k at hn hle ⊢
                  have e3 : IntKind.u64.wrap ((k : Int) + 1) = (k : Int) + 1 := by rw [Go.IntKind.wrap_u64]; omega
                  go_wp2_with fail
                  go_roundw
                  case rel => exact ⟨⟨j + 1, by omega, by go_num, by rw [hn]; go_num⟩, by repeat (first | exact Drawn0.refl _ | apply Drawn0.step)⟩
                  case measure => simp [intOf]; omega
              · obtain rfl : x = j := by omega
                have hl3 : decide ((x : Int) < (x : Int)) = false := decide_eq_false (by omega)
                have fx := blkB_frozen Hb.out x
                have ci2 : (wr.setCell ⟨w.heap.size, x, none⟩ (.bool true)).cell? (ad.add i) = wr.cell? (ad.add i) := by
                  have := hcell.out (wr.setCell ⟨w.heap.size, x, none⟩ (.bool true)) (HB.out.setCell (Nat.le_refl _) _) i hin
                  rw [this, Hx2.out]; exact ci.symm
                go_wp2_with fail
                go_roundw
                case rel => exact ⟨i + 1, by omega, by go_num, by rw [Hv.out], by rw [Hw.out], by rw [← Htk.out]; exact blkB_set (blkB_drewN Hb.out q2) (by omega), (pw_below_drewN HB.out q2).setCell (Nat.le_refl _) _⟩
                case measure => simp [intOf]; omega
          · obtain rfl : b = i := by omega
            have g0 : decide (L.getD b 0 ∈ L.take b) = true := decide_eq_true (hdup.out hin)
            rw [g0] at cx
            rw [hx2] at ci hx
            clear g0 hx2
            obtain ⟨rfl, rfl⟩ := hR.out hin
            generalize (valV L d b).1 = v1
            generalize (valV L d b).2 = v2
            go_wp2_with fail
            go_ret2
            exact ⟨rfl, HB.out⟩
        · obtain rfl : n = i := by omega
          have hl2 : decide ((n : Int) < (n : Int)) = false := decide_eq_false (by omega)
          obtain rfl : n = b := by omega
          have hv := hR2.out rfl
          generalize (valV L d n).1 = v1 at hv ⊢
          obtain ⟨rfl, rfl⟩ := hv
          clear hR hR2
          generalize (valV L d n).2 = v2
          go_wp2_with fail
          go_ret2
          exact ⟨rfl, HB.out⟩
end Go.Proofs.Ytnbnaflhijfamaa.RefWhich
