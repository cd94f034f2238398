/- The contract of the program's function deal.Which: the errors, and the number that a hand of unlike cards is told as; it leaves the world as it was, but for drawn orders. -/
import Derived.Test.YtnbnaflhijfamaaDealLaws
namespace Go.Proofs.Ytnbnaflhijfamaa.WhichWalk
open Go.RowKit Go.Proofs.YtnbnaflhijfamaaW.PrintWords Go.Proofs.YtnbnaflhijfamaaW.PrintMore Go.Proofs.Ytnbnaflhijfamaa.DealMem Go.Proofs.Ytnbnaflhijfamaa.DealMath Go.Proofs.Ytnbnaflhijfamaa.DealWalk Go.Proofs.Ytnbnaflhijfamaa.HandsIs Go.Proofs.Ytnbnaflhijfamaa.PDealAll Go.Proofs.Ytnbnaflhijfamaa.DealLaws

/-- How many of the first cards are less than x. -/
def lessP (L : List Int) (x : Int) : Nat → Nat
  | 0 => 0
  | j + 1 => lessP L x j + (if L.getD j 0 < x then 1 else 0)
theorem lessP_le (L : List Int) (x : Int) : ∀ j, lessP L x j ≤ j
  | 0 => Nat.le_refl _
  | j + 1 => by have := lessP_le L x j; simp only [lessP]; split <;> omega
/-- The place of a card among those that are left. -/
def digit (L : List Int) (i : Nat) : Int := L.getD i 0 - (lessP L (L.getD i 0) i : Int)
/-- The number of a hand from card k on, j cards of it. -/
def horn (L : List Int) (d : Nat) : Nat → Nat → Int
  | _, 0 => 0
  | k, j + 1 => horn L d (k + 1) j * ((d : Int) - (k : Int)) + digit L k
theorem horn_range {L : List Int} {d : Nat} (d64 : d ≤ 64) (hd : ∀ i, i < L.length → 0 ≤ digit L i ∧ digit L i < 64) : ∀ j k, k + j ≤ L.length → k + j ≤ d → 0 ≤ horn L d k j ∧ horn L d k j < 64 ^ j
  | 0, _, _, _ => by simp [horn]
  | j + 1, k, h, h2 => by
    have ih := horn_range d64 hd j (k + 1) (by omega) (by omega)
    have dk := hd k (by omega)
    simp only [horn]
    have m0 : 0 ≤ horn L d (k + 1) j * ((d : Int) - (k : Int)) := Int.mul_nonneg ih.1 (by omega)
    have m1 : horn L d (k + 1) j * ((d : Int) - (k : Int)) ≤ horn L d (k + 1) j * 64 := Int.mul_le_mul_of_nonneg_left (by omega) ih.1
    rw [Int.pow_succ]
    omega
theorem pow8 {j : Nat} (h : j ≤ 8) : (64 : Int) ^ j ≤ 281474976710656 := by
  have h2 : ∀ i : Fin 9, (64 : Int) ^ (i : Nat) ≤ 281474976710656 := by decide +kernel
  exact h2 ⟨j, by omega⟩

set_option maxHeartbeats 1000000 in
theorem which_err (A : Option Addr) (n c : Nat) (deck : Int) (w : World) (he : (handsV deck n).2 ≠ 0) :
    Calls Try.prog 24 #[.slice A n c, .int .i64 deck] w fun e w' => e = .returned (.tuple #[.int .u64 0, .int .i64 (handsV deck n).2]) ∧ Drawn0 w w' := by
  have h := Aside0.mk (hands_any deck n)
  generalize (handsV deck n).1 = a at h
  generalize (handsV deck n).2 = b at h he ⊢
  have t : (b != 0) = true := bne_iff_ne.mpr he
  have t2 : (b == 0) = false := beq_eq_false_iff_ne.mpr he
  clear he
  go_enter Try.func24, Try.ntmps24
  go_wp2_with (go_at_call 20; (with_reducible refine (h.out _).mono ?_); rintro e w' ⟨rfl, ⟨nw, rfl⟩⟩)
  go_ret2
  exact ⟨rfl, by repeat (first | exact Drawn0.refl _ | apply Drawn0.step)⟩

set_option maxHeartbeats 2000000 in
/-- A card that is not in the deck. -/
theorem which_range (ad : Addr) (n c : Nat) (L : List Int) (deck : Int) (w : World) (hn : n ≤ 64) (hcell : Aside0 (∀ i, i < n → w.cell? (ad.add i) = some (.int .i64 (L.getD i 0))))
    (he : (handsV deck n).2 = 0) (m : Nat) (hm : m < n) (hbad : L.getD m 0 < 0 ∨ deck ≤ L.getD m 0) :
    Calls Try.prog 24 #[.slice (some ad) n c, .int .i64 deck] w fun e w' => e = .returned (.tuple #[.int .u64 0, .int .i64 8]) ∧ Drawn0 w w' := by
  have h := Aside0.mk (hands_any deck n)
  rw [he] at h
  generalize (handsV deck n).1 = a at h
  clear he
  have Hbad := Aside0.mk hbad
  clear hbad
  go_enter Try.func24, Try.ntmps24
  go_wp2_with (go_at_call 20; (with_reducible refine (h.out _).mono ?_); rintro e w' ⟨rfl, ⟨nw, rfl⟩⟩)
  go_loop [27] (fun s => ∃ k : Nat, k ≤ m ∧ s = .int .i64 k) (fun s => n - (intOf s).toNat)
  case atStart => exact ⟨0, by omega, rfl⟩
  case round =>
    obtain ⟨k, hk, rfl⟩ := hrel
    have hl : decide ((k : Int) < (n : Int)) = true := decide_eq_true (by omega)
    have hk' : (k : Int) < (n : Int) := by omega
    have ck := hcell.out k (by omega)
    by_cases b1 : L.getD k 0 < 0
    · have t1 : decide (L.getD k 0 < 0) = true := decide_eq_true b1
      clear Hbad b1
      generalize L.getD k 0 = x at *
      go_wp2_with fail
      go_ret2
      exact ⟨rfl, by repeat (first | exact Drawn0.refl _ | apply Drawn0.step)⟩
    · have t1 : decide (L.getD k 0 < 0) = false := decide_eq_false b1
      by_cases b2 : deck ≤ L.getD k 0
      · have t2 : decide (deck ≤ L.getD k 0) = true := decide_eq_true b2
        clear Hbad b1 b2
        generalize L.getD k 0 = x at *
        go_wp2_with fail
        go_ret2
        exact ⟨rfl, by repeat (first | exact Drawn0.refl _ | apply Drawn0.step)⟩
      · have t2 : decide (deck ≤ L.getD k 0) = false := decide_eq_false b2
        have km : k ≠ m := by rintro rfl; rcases Hbad.out with h | h; exact b1 h; exact b2 h
        have km' : k + 1 ≤ m := by omega
        clear Hbad b1 b2 km
        generalize L.getD k 0 = x at *
        go_wp2_with fail
        go_round
        case rel => exact ⟨k + 1, km', by go_num⟩
        case measure => simp [intOf]; omega
end Go.Proofs.Ytnbnaflhijfamaa.WhichWalk
