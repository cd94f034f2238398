/- How many hands there are, as the program and the reference tell it, in plain numbers, and the contract of deal.Deal at every number; no condition beyond the kinds of the numbers. -/
import Derived.Test.YtnbnaflhijfamaaDealWalk
namespace Go.Proofs.Ytnbnaflhijfamaa.HandsIs
open Go.RowKit Go.Proofs.YtnbnaflhijfamaaW.PrintWords Go.Proofs.YtnbnaflhijfamaaW.PrintMore Go.Proofs.Ytnbnaflhijfamaa.DealMem Go.Proofs.Ytnbnaflhijfamaa.DealMath Go.Proofs.Ytnbnaflhijfamaa.DealWalk Go.Proofs.Ytnbnaflhijfamaa.PDealAll

theorem step_wrap (d i : Nat) (x : Nat) (hd : d ≤ 64) (hi : i < d) (hx : x * (d - i) ≤ 281474976710656) :
    IntKind.u64.wrap ((x : Int) * (IntKind.u64.wrap (wrap64 ((d : Int) - (i : Int))))) = ((x * (d - i) : Nat) : Int) := by
  have e1 : wrap64 ((d : Int) - (i : Int)) = ((d - i : Nat) : Int) := by unfold wrap64; omega
  have e2 : IntKind.u64.wrap ((d - i : Nat) : Int) = ((d - i : Nat) : Int) := by rw [Go.IntKind.wrap_u64]; omega
  rw [e1, e2, ← Int.natCast_mul]
  generalize x * (d - i) = z at *
  rw [Go.IntKind.wrap_u64]; omega

theorem hands_loop (d n : Nat) (hd : d ≤ 64) (hn : n ≤ 8) (nd : n ≤ d) : ∀ (j k i : Nat), n - i = j → j < k → i ≤ n →
    deal_Hands.l0 k (d : Int) (prodN d i : Int) (n : Int) (i : Int) = some (if (prodN d n : Int) > 1099511627776 then (0, 10) else ((prodN d n : Int), 0)) := by
  intro j
  induction j with
  | zero =>
    intro k i hj hk hi
    obtain ⟨k, rfl⟩ : ∃ m, k = m + 1 := ⟨k - 1, by omega⟩
    obtain rfl : i = n := by omega
    simp only [deal_Hands.l0]
    rw [if_neg (by omega)]
    split <;> rfl
  | succ j ih =>
    intro k i hj hk hi
    obtain ⟨k, rfl⟩ : ∃ m, k = m + 1 := ⟨k - 1, by omega⟩
    have hp : prodN d (i + 1) ≤ 281474976710656 := prodN_small hd (by omega)
    have e2 : wrap64 ((i : Int) + 1) = ((i + 1 : Nat) : Int) := by unfold wrap64; omega
    simp only [deal_Hands.l0]
    rw [if_pos (by omega), step_wrap d i _ hd (by omega) hp, e2]
    exact ih k (i + 1) (by omega) (by omega) (by omega)

theorem ref_hands_loop (d n : Nat) (hd : d ≤ 64) (hn : n ≤ 8) (nd : n ≤ d) : ∀ (j k i : Nat), n - i = j → j < k → i ≤ n →
    usherref07_Hands.l0 k (d : Int) (n : Int) (prodN d i : Int) (i : Int) = some (if (prodN d n : Int) > 1099511627776 then (0, 10) else ((prodN d n : Int), 0)) := by
  intro j
  induction j with
  | zero =>
    intro k i hj hk hi
    obtain ⟨k, rfl⟩ : ∃ m, k = m + 1 := ⟨k - 1, by omega⟩
    obtain rfl : i = n := by omega
    simp only [usherref07_Hands.l0]
    rw [if_neg (by omega)]
    split <;> rfl
  | succ j ih =>
    intro k i hj hk hi
    obtain ⟨k, rfl⟩ : ∃ m, k = m + 1 := ⟨k - 1, by omega⟩
    have hp : prodN d (i + 1) ≤ 281474976710656 := prodN_small hd (by omega)
    have e2 : wrap64 ((i : Int) + 1) = ((i + 1 : Nat) : Int) := by unfold wrap64; omega
    simp only [usherref07_Hands.l0]
    rw [if_pos (by omega), step_wrap d i _ hd (by omega) hp, e2]
    exact ih k (i + 1) (by omega) (by omega) (by omega)

/-- The errors that the arguments alone bring. -/
theorem handsV_arg {deck n : Int} (h : deck < 1 ∨ deck > 64 ∨ n < 1 ∨ n > 8) : handsV deck n = (0, 1) := if_pos h
theorem handsV_in {deck n : Int} (h1 : ¬ deck < 1) (h2 : ¬ deck > 64) (h3 : ¬ n < 1) (h4 : ¬ n > 8) :
    handsV deck n = (if n > deck then (0, 8) else (if (prodN deck.toNat n.toNat : Int) > 1099511627776 then (0, 10) else ((prodN deck.toNat n.toNat : Int), 0))) := by
  unfold handsV
  rw [if_neg (by omega)]

theorem hands_is (deck n : Int) : deal_Hands.f 20 deck n = some (handsV deck n) := by
  unfold deal_Hands.f
  have yes : deal_Hands.j0 20 deck n true = some (0, 1) := by
    rw [show (20 : Nat) = 19 + 1 from rfl]; simp only [deal_Hands.j0]; rw [if_pos trivial]
  by_cases h1 : deck < 1
  · rw [if_pos h1, yes, handsV_arg (.inl h1)]
  rw [if_neg h1]
  by_cases h2 : deck > 64
  · rw [if_pos h2, yes, handsV_arg (.inr (.inl h2))]
  rw [if_neg h2]
  by_cases h3 : n < 1
  · rw [if_pos h3, yes, handsV_arg (.inr (.inr (.inl h3)))]
  rw [if_neg h3]
  by_cases h4 : n > 8
  · rw [decide_eq_true h4, yes, handsV_arg (.inr (.inr (.inr h4)))]
  rw [decide_eq_false h4, handsV_in h1 h2 h3 h4, show (20 : Nat) = 19 + 1 from rfl]
  simp only [deal_Hands.j0]
  rw [if_neg (by decide)]
  by_cases h5 : n > deck
  · rw [if_pos h5, if_pos h5]
  rw [if_neg h5, if_neg h5]
  have := hands_loop deck.toNat n.toNat (by omega) (by omega) (by omega) n.toNat 19 0 (by omega) (by omega) (by omega)
  rw [Int.toNat_of_nonneg (by omega), Int.toNat_of_nonneg (by omega)] at this
  exact this

theorem ref_hands_is (deck n : Int) : usherref07_Hands.f 20 deck n = some (handsV deck n) := by
  unfold usherref07_Hands.f
  have yes : usherref07_Hands.j0 20 deck n true = some (0, 1) := by
    rw [show (20 : Nat) = 19 + 1 from rfl]; simp only [usherref07_Hands.j0]; rw [if_pos trivial]
  by_cases h1 : deck < 1
  · rw [if_pos h1, yes, handsV_arg (.inl h1)]
  rw [if_neg h1]
  by_cases h2 : deck > 64
  · rw [if_pos h2, yes, handsV_arg (.inr (.inl h2))]
  rw [if_neg h2]
  by_cases h3 : n < 1
  · rw [if_pos h3, yes, handsV_arg (.inr (.inr (.inl h3)))]
  rw [if_neg h3]
  by_cases h4 : n > 8
  · rw [decide_eq_true h4, yes, handsV_arg (.inr (.inr (.inr h4)))]
  rw [decide_eq_false h4, handsV_in h1 h2 h3 h4, show (20 : Nat) = 19 + 1 from rfl]
  simp only [usherref07_Hands.j0]
  rw [if_neg (by decide)]
  by_cases h5 : n > deck
  · rw [if_pos h5, if_pos h5]
  rw [if_neg h5, if_neg h5]
  have := ref_hands_loop deck.toNat n.toNat (by omega) (by omega) (by omega) n.toNat 19 0 (by omega) (by omega) (by omega)
  rw [Int.toNat_of_nonneg (by omega), Int.toNat_of_nonneg (by omega)] at this
  exact this

theorem hands_any (deck n : Int) (w : World) : Calls Try.prog 20 #[.int .i64 deck, .int .i64 n] w fun e w' => e = .returned (.tuple #[.int .u64 (handsV deck n).1, .int .i64 (handsV deck n).2]) ∧ Drawn0 w w' :=
  deal_Hands.calls 20 deck n _ _ w (hands_is deck n)
theorem ref_hands_any (deck n : Int) (w : World) : Calls Try.prog 21 #[.int .i64 deck, .int .i64 n] w fun e w' => e = .returned (.tuple #[.int .u64 (handsV deck n).1, .int .i64 (handsV deck n).2]) ∧ Drawn0 w w' :=
  usherref07_Hands.calls 20 deck n _ _ w (ref_hands_is deck n)

/-- When there is a hand: what the numbers are. -/
theorem handsV_ok {deck n : Int} (h : (handsV deck n).2 = 0) : ∃ d m : Nat, deck = d ∧ n = m ∧ 1 ≤ d ∧ d ≤ 64 ∧ 1 ≤ m ∧ m ≤ 8 ∧ m ≤ d ∧ prodN d m ≤ 1099511627776 ∧ (handsV deck n).1 = (prodN d m : Int) := by
  by_cases h0 : deck < 1 ∨ deck > 64 ∨ n < 1 ∨ n > 8
  · rw [handsV_arg h0] at h; cases h
  have e := handsV_in (deck := deck) (n := n) (by omega) (by omega) (by omega) (by omega)
  rw [e] at h ⊢
  by_cases h5 : n > deck
  · rw [if_pos h5] at h; cases h
  rw [if_neg h5] at h ⊢
  by_cases h6 : (prodN deck.toNat n.toNat : Int) > 1099511627776
  · rw [if_pos h6] at h; cases h
  rw [if_neg h6]
  exact ⟨deck.toNat, n.toNat, by omega, by omega, by omega, by omega, by omega, by omega, by omega, by omega, rfl⟩

theorem deal_ok (h : Nat) (deck n : Int) (hh : h < 18446744073709551616) (he : (handsV deck n).2 = 0) (w : World) :
    Calls Try.prog 18 #[.int .u64 h, .int .i64 deck, .int .i64 n] w (Dealt w (dealL h (deckL deck.toNat) n.toNat)) := by
  have c := hands_any deck n
  rw [he] at c
  obtain ⟨d, m, rfl, rfl, d1, d64, m1, m8, md, _, _⟩ := handsV_ok he
  exact deal_walk h d m _ hh d1 d64 m1 m8 md w ⟨c⟩

set_option maxHeartbeats 400000 in
theorem deal_no (h deck n : Int) (he : (handsV deck n).2 ≠ 0) (w : World) :
    Calls Try.prog 18 #[.int .u64 h, .int .i64 deck, .int .i64 n] w fun e w' => e = .returned (.tuple #[.slice none 0 0, .int .i64 (handsV deck n).2]) ∧ Drawn0 w w' := by
  have c := Aside0.mk (hands_any deck n)
  generalize (handsV deck n).1 = a at c
  generalize (handsV deck n).2 = b at c he ⊢
  have t : (b != 0) = true := bne_iff_ne.mpr he
  have t2 : (b == 0) = false := beq_eq_false_iff_ne.mpr he
  clear he
  go_enter Try.func18, Try.ntmps18
  go_wp2_with (go_at_call 20; (with_reducible refine (c.out _).mono ?_); rintro e w' ⟨rfl, ⟨nw, rfl⟩⟩)
  go_ret2
  exact ⟨rfl, by repeat (first | exact Drawn0.refl _ | apply Drawn0.step)⟩

theorem blk_C {w : World} {g : Nat} {L : List Int} (h : blkL w g L) (hl : L.length ≤ 9223372036854775807) : Kd.C (Kd.int .i64) w (some ⟨g, 0, none⟩) L.length L := by
  refine ⟨rfl, hl, fun _ => ⟨_, rfl, fun j p hp => ?_⟩⟩
  have hj : j < L.length := by
    rcases Nat.lt_or_ge j L.length with h' | h'
    · exact h'
    · rw [List.getElem?_eq_none h'] at hp; cases hp
  refine ⟨[.int .i64 p], rfl, rfl, fun i u hi => ?_⟩
  cases i with
  | zero =>
    simp at hi; subst hi
    have := blkL_cell h j hj
    rw [List.getD_eq_getElem?_getD, hp] at this
    rw [add_plain]
    simpa [Kd.int, Kd.scalar] using this
  | succ i => simp at hi
end Go.Proofs.Ytnbnaflhijfamaa.HandsIs
