/- What deal.Which answers, in plain numbers, and its contract at any hand; no condition beyond the sizes that each names. -/
import Derived.Test.YtnbnaflhijfamaaWhichMath
import Derived.Test.YtnbnaflhijfamaaOwnWhich
namespace Go.Proofs.Ytnbnaflhijfamaa.WhichIs
open Go.RowKit Go.Proofs.YtnbnaflhijfamaaW.PrintWords Go.Proofs.YtnbnaflhijfamaaW.PrintMore Go.Proofs.Ytnbnaflhijfamaa.DealMath Go.Proofs.Ytnbnaflhijfamaa.HandsIs Go.Proofs.Ytnbnaflhijfamaa.WhichWalk Go.Proofs.Ytnbnaflhijfamaa.WhichMath Go.Proofs.Ytnbnaflhijfamaa.OwnWhich Go.Proofs.Ytnbnaflhijfamaa.PDealAll

theorem rd_at (l : List Int) (i : Nat) : rd l (i : Int) = l.getD i 0 := by simp [rd]
theorem rd_take (L : List Int) (i j : Nat) (h : j < i) : rd (L.take i) (j : Int) = L.getD j 0 := by
  rw [rd_at, List.getD_eq_getElem?_getD, List.getD_eq_getElem?_getD, List.getElem?_take_of_lt h]
theorem l2_dup (L : List Int) (d x : Int) (i : Nat) (hi : i < L.length) (n8 : L.length ≤ 8) : ∀ m j c, i - j = m → (∃ a, j ≤ a ∧ a < i ∧ L.getD a 0 = L.getD i 0) → ∃ k, deal_Which.l2 k L d x i c (L.take i) i j = some (0, 5) := by
  intro m
  induction m with
  | zero => intro j c hm ⟨a, h1, h2, _⟩; omega
  | succ m ih =>
    intro j c hm ⟨a, h1, h2, h3⟩
    have hl : ((L.take i).length : Int) = i := by rw [List.length_take]; omega
    have e2 : wrap64 ((j : Int) + 1) = ((j + 1 : Nat) : Int) := by unfold wrap64; omega
    by_cases e : L.getD j 0 = L.getD i 0
    · refine ⟨1, ?_⟩
      simp only [deal_Which.l2]
      rw [if_pos (by omega), if_pos (by omega), if_pos (by omega), if_pos (by omega), if_pos (by omega), rd_take L i j (by omega), rd_at, if_pos e]
    · have haj : a ≠ j := by rintro rfl; exact e h3
      by_cases lt : L.getD j 0 < L.getD i 0
      · obtain ⟨k, hk⟩ := ih (j + 1) (wrap64 (c + 1)) (by omega) ⟨a, by omega, h2, h3⟩
        refine ⟨k + 1, ?_⟩
        simp only [deal_Which.l2]
        rw [if_pos (by omega), if_pos (by omega), if_pos (by omega), if_pos (by omega), if_pos (by omega), rd_take L i j (by omega), rd_at, if_neg e, if_pos lt, e2]
        exact hk
      · obtain ⟨k, hk⟩ := ih (j + 1) c (by omega) ⟨a, by omega, h2, h3⟩
        refine ⟨k + 1, ?_⟩
        simp only [deal_Which.l2]
        rw [if_pos (by omega), if_pos (by omega), if_pos (by omega), if_pos (by omega), if_pos (by omega), rd_take L i j (by omega), rd_at, if_neg e, if_neg lt, e2]
        exact hk
/-- The number behind one more card. -/
def stepV (L : List Int) (d x : Int) (i : Nat) : Int := IntKind.u64.wrap ((IntKind.u64.wrap (x * (IntKind.u64.wrap (wrap64 (d - i))))) + (IntKind.u64.wrap (wrap64 (digit L i))))
theorem l2_free (L : List Int) (d x : Int) (i : Nat) (r : Int × Int) (hi : i < L.length) (n8 : L.length ≤ 8) (hgo : ∃ k, deal_Which.l1 k L d (stepV L d x i) (wrap64 ((i : Int) - 1)) = some r) : ∀ m j, i - j = m → j ≤ i → (∀ a, j ≤ a → a < i → L.getD a 0 ≠ L.getD i 0) → ∃ k, deal_Which.l2 k L d x i (lessP L (L.getD i 0) j : Int) (L.take i) i j = some r := by
  intro m
  induction m with
  | zero =>
    intro j hm hj _
    obtain rfl : j = i := by omega
    obtain ⟨k, hk⟩ := hgo
    refine ⟨k + 1, ?_⟩
    simp only [deal_Which.l2]
    rw [if_neg (by omega), if_pos (by omega), if_pos (by omega), rd_at]
    exact hk
  | succ m ih =>
    intro j hm hj hne
    have hl : ((L.take i).length : Int) = i := by rw [List.length_take]; omega
    have e2 : wrap64 ((j : Int) + 1) = ((j + 1 : Nat) : Int) := by unfold wrap64; omega
    have e := hne j (Nat.le_refl _) (by omega)
    have hle := lessP_le L (L.getD i 0) j
    obtain ⟨k, hk⟩ := ih (j + 1) (by omega) (by omega) (fun a h1 h2 => hne a (by omega) h2)
    refine ⟨k + 1, ?_⟩
    simp only [lessP] at hk
    simp only [deal_Which.l2]
    rw [if_pos (by omega), if_pos (by omega), if_pos (by omega), if_pos (by omega), if_pos (by omega), rd_take L i j (by omega), rd_at, if_neg e, e2]
    by_cases lt : L.getD j 0 < L.getD i 0
    · rw [if_pos lt] at hk ⊢
      have e3 : wrap64 ((lessP L (L.getD i 0) j : Int) + 1) = ((lessP L (L.getD i 0) j + 1 : Nat) : Int) := by unfold wrap64; omega
      rw [e3]
      exact hk
    · rw [if_neg lt] at hk ⊢
      exact hk
/-- The number from the last card on. -/
def stepN (L : List Int) (d : Int) : Nat → Int → Int
  | 0, x => x
  | i + 1, x => stepN L d i (stepV L d x i)
theorem l1_step (L : List Int) (d x : Int) (i : Nat) (r : Int × Int) (hi : i < L.length) (n8 : L.length ≤ 8) (h : ∃ k, deal_Which.l2 k L d x i 0 (L.take i) i 0 = some r) : ∃ k, deal_Which.l1 k L d x i = some r := by
  obtain ⟨k, hk⟩ := h
  have hl : ((L.take i).length : Int) = i := by rw [List.length_take]; omega
  refine ⟨k + 1, ?_⟩
  simp only [deal_Which.l1]
  rw [if_pos (by omega), if_pos (by omega), if_pos (by omega), Int.toNat_natCast, hl]
  exact hk
theorem l1_free (L : List Int) (d : Int) (n8 : L.length ≤ 8) : ∀ (i : Nat) (x : Int), i ≤ L.length → (∀ a b, a < b → b < i → L.getD a 0 ≠ L.getD b 0) → ∃ k, deal_Which.l1 k L d x (wrap64 ((i : Int) - 1)) = some (stepN L d i x, 0)
  | 0, x, _, _ => by
    refine ⟨1, ?_⟩
    have e : wrap64 (((0 : Nat) : Int) - 1) = -1 := by unfold wrap64; omega
    simp only [deal_Which.l1]
    rw [e, if_neg (by omega)]
    rfl
  | i + 1, x, hi, hne => by
    have ih := l1_free L d n8 i (stepV L d x i) (by omega) (fun a b h1 h2 => hne a b h1 (by omega))
    have e : wrap64 (((i + 1 : Nat) : Int) - 1) = (i : Int) := by unfold wrap64; omega
    rw [e]
    exact l1_step L d x i _ (by omega) n8 (l2_free L d x i _ (by omega) n8 ih i 0 (by omega) (by omega) (fun a _ h => hne a i h (by omega)))
theorem l1_dup (L : List Int) (d : Int) (n8 : L.length ≤ 8) : ∀ (i : Nat) (x : Int), i ≤ L.length → (∃ a b, a < b ∧ b < i ∧ L.getD a 0 = L.getD b 0) → ∃ k, deal_Which.l1 k L d x (wrap64 ((i : Int) - 1)) = some (0, 5)
  | 0, x, _, ⟨a, b, h1, h2, _⟩ => by omega
  | i + 1, x, hi, ⟨a, b, h1, h2, h3⟩ => by
    have e : wrap64 (((i + 1 : Nat) : Int) - 1) = (i : Int) := by unfold wrap64; omega
    rw [e]
    by_cases hd : ∃ a, 0 ≤ a ∧ a < i ∧ L.getD a 0 = L.getD i 0
    · exact l1_step L d x i _ (by omega) n8 (l2_dup L d x i (by omega) n8 i 0 0 (by omega) hd)
    · have hb : b ≠ i := by rintro rfl; exact hd ⟨a, Nat.zero_le _, h1, h3⟩
      have ih := l1_dup L d n8 i (stepV L d x i) (by omega) ⟨a, b, h1, by omega, h3⟩
      exact l1_step L d x i _ (by omega) n8 (l2_free L d x i _ (by omega) n8 ih i 0 (by omega) (by omega) (fun a _ h e => hd ⟨a, Nat.zero_le _, h, e⟩))
theorem l0_ok (L : List Int) (d : Int) (r : Int × Int) (n8 : L.length ≤ 8) (hr : ∀ i, i < L.length → 0 ≤ L.getD i 0 ∧ L.getD i 0 < d) (h : ∃ k, deal_Which.l1 k L d 0 (wrap64 ((L.length : Int) - 1)) = some r) : ∀ m j, L.length - j = m → j ≤ L.length → ∃ k, deal_Which.l0 k L d L (L.length : Int) (j : Int) = some r := by
  intro m
  induction m with
  | zero =>
    intro j hm hj
    obtain ⟨k, hk⟩ := h
    refine ⟨k + 1, ?_⟩
    simp only [deal_Which.l0]
    rw [if_neg (by omega)]
    exact hk
  | succ m ih =>
    intro j hm hj
    obtain ⟨k, hk⟩ := ih (j + 1) (by omega) (by omega)
    have e2 : wrap64 ((j : Int) + 1) = ((j + 1 : Nat) : Int) := by unfold wrap64; omega
    have h2 := hr j (by omega)
    refine ⟨k + 1, ?_⟩
    simp only [deal_Which.l0]
    rw [if_pos (by omega), if_pos (by omega), if_pos (by omega), rd_at, if_neg (by omega), if_neg (by omega), e2]
    exact hk
theorem l0_bad (L : List Int) (d : Int) (n8 : L.length ≤ 8) : ∀ m j, L.length - j = m → (∃ i, j ≤ i ∧ i < L.length ∧ (L.getD i 0 < 0 ∨ d ≤ L.getD i 0)) → ∃ k, deal_Which.l0 k L d L (L.length : Int) (j : Int) = some (0, 8) := by
  intro m
  induction m with
  | zero => intro j hm ⟨i, h1, h2, _⟩; omega
  | succ m ih =>
    intro j hm ⟨i, h1, h2, h3⟩
    have e2 : wrap64 ((j : Int) + 1) = ((j + 1 : Nat) : Int) := by unfold wrap64; omega
    by_cases b1 : L.getD j 0 < 0
    · refine ⟨1, ?_⟩
      simp only [deal_Which.l0]
      rw [if_pos (by omega), if_pos (by omega), if_pos (by omega), rd_at, if_pos b1]
    · by_cases b2 : d ≤ L.getD j 0
      · refine ⟨1, ?_⟩
        simp only [deal_Which.l0]
        rw [if_pos (by omega), if_pos (by omega), if_pos (by omega), rd_at, if_neg b1, if_pos b2]
      · have hij : i ≠ j := by rintro rfl; omega
        obtain ⟨k, hk⟩ := ih (j + 1) (by omega) ⟨i, by omega, h2, h3⟩
        refine ⟨k + 1, ?_⟩
        simp only [deal_Which.l0]
        rw [if_pos (by omega), if_pos (by omega), if_pos (by omega), rd_at, if_neg b1, if_neg (by omega), e2]
        exact hk
theorem stepV_horn {L : List Int} {d k : Nat} (d64 : d ≤ 64) (hk : k < d) (hu : 0 ≤ digit L k ∧ digit L k < 64) {x : Int} (hx : 0 ≤ x ∧ x < 281474976710656) : stepV L d x k = x * ((d : Int) - (k : Int)) + digit L k := by
  unfold stepV
  generalize digit L k = g at *
  have e1 : wrap64 ((d : Int) - (k : Int)) = (d : Int) - (k : Int) := by unfold wrap64; omega
  have e2 : IntKind.u64.wrap ((d : Int) - (k : Int)) = (d : Int) - (k : Int) := by rw [Go.IntKind.wrap_u64]; omega
  have e3 : wrap64 g = g := by unfold wrap64; omega
  have e4 : IntKind.u64.wrap g = g := by rw [Go.IntKind.wrap_u64]; omega
  rw [e1, e2, e3, e4]
  have m0 : 0 ≤ x * ((d : Int) - (k : Int)) := Int.mul_nonneg hx.1 (by omega)
  have m1 : x * ((d : Int) - (k : Int)) ≤ x * 64 := Int.mul_le_mul_of_nonneg_left (by omega) hx.1
  generalize x * ((d : Int) - (k : Int)) = y at *
  have e5 : IntKind.u64.wrap y = y := by rw [Go.IntKind.wrap_u64]; omega
  rw [e5, Go.IntKind.wrap_u64]
  omega
theorem stepN_horn {L : List Int} {d : Nat} (d64 : d ≤ 64) (hnd : L.length ≤ d) (n8 : L.length ≤ 8) (hu : ∀ i, i < L.length → 0 ≤ digit L i ∧ digit L i < 64) : ∀ i, i ≤ L.length → stepN L d i (horn L d i (L.length - i)) = horn L d 0 L.length
  | 0, _ => by simp [stepN]
  | i + 1, hi => by
    have hh := horn_range d64 hu (L.length - (i + 1)) (i + 1) (by omega) (by omega)
    have hp := pow8 (show L.length - (i + 1) ≤ 8 by omega)
    have ih := stepN_horn d64 hnd n8 hu i (by omega)
    simp only [stepN]
    rw [stepV_horn d64 (by omega) (hu i (by omega)) (by omega)]
    rw [show L.length - i = (L.length - (i + 1)) + 1 by omega] at ih
    exact ih

/-- What is told of a hand. -/
noncomputable def whichV (L : List Int) (deck : Int) : Int × Int :=
  open Classical in
  if (handsV deck L.length).2 ≠ 0 then (0, (handsV deck L.length).2)
  else if ∃ i, i < L.length ∧ (L.getD i 0 < 0 ∨ deck ≤ L.getD i 0) then (0, 8)
  else if ∃ a b, a < b ∧ b < L.length ∧ L.getD a 0 = L.getD b 0 then (0, 5)
  else (horn L deck.toNat 0 L.length, 0)
theorem whichV_err {L : List Int} {deck : Int} (h : (handsV deck L.length).2 ≠ 0) : whichV L deck = (0, (handsV deck L.length).2) := if_pos h
theorem whichV_range {L : List Int} {deck : Int} (h : (handsV deck L.length).2 = 0) (h2 : ∃ i, i < L.length ∧ (L.getD i 0 < 0 ∨ deck ≤ L.getD i 0)) : whichV L deck = (0, 8) := by
  unfold whichV
  rw [if_neg (by simpa using h), if_pos h2]
theorem whichV_twice {L : List Int} {deck : Int} (h : (handsV deck L.length).2 = 0) (h2 : ¬ ∃ i, i < L.length ∧ (L.getD i 0 < 0 ∨ deck ≤ L.getD i 0)) (h3 : ∃ a b, a < b ∧ b < L.length ∧ L.getD a 0 = L.getD b 0) : whichV L deck = (0, 5) := by
  unfold whichV
  rw [if_neg (by simpa using h), if_neg h2, if_pos h3]
theorem whichV_ok {L : List Int} {deck : Int} (h : (handsV deck L.length).2 = 0) (h2 : ¬ ∃ i, i < L.length ∧ (L.getD i 0 < 0 ∨ deck ≤ L.getD i 0)) (h3 : ¬ ∃ a b, a < b ∧ b < L.length ∧ L.getD a 0 = L.getD b 0) : whichV L deck = (horn L deck.toNat 0 L.length, 0) := by
  unfold whichV
  rw [if_neg (by simpa using h), if_neg h2, if_neg h3]
theorem in_range {L : List Int} {deck : Int} (h2 : ¬ ∃ i, i < L.length ∧ (L.getD i 0 < 0 ∨ deck ≤ L.getD i 0)) : ∀ i, i < L.length → 0 ≤ L.getD i 0 ∧ L.getD i 0 < deck := by
  intro i hi
  constructor
  · rcases Int.lt_or_le (L.getD i 0) 0 with h | h
    · exact absurd ⟨i, hi, .inl h⟩ h2
    · exact h
  · rcases Int.lt_or_le (L.getD i 0) deck with h | h
    · exact h
    · exact absurd ⟨i, hi, .inr h⟩ h2
theorem unlike_of {L : List Int} (h3 : ¬ ∃ a b, a < b ∧ b < L.length ∧ L.getD a 0 = L.getD b 0) : Unlike L := fun a b h1 h2 e => h3 ⟨a, b, h1, h2, e⟩
theorem hands_some (k : Nat) (deck n : Int) : deal_Hands.f (20 + k) deck n = some (handsV deck n) := by
  induction k with
  | zero => exact hands_is deck n
  | succ k ih =>
    have := deal_Hands.mono deck n (20 + k)
    exact this _ ih
theorem l0_more (L : List Int) (d : Int) (r : Int × Int) (j n : Nat) : ∀ m k, deal_Which.l0 k L d L (n : Int) (j : Int) = some r → deal_Which.l0 (k + m) L d L (n : Int) (j : Int) = some r := by
  intro m
  induction m with
  | zero => intro k h; exact h
  | succ m ih =>
    intro k h
    have h1 := ih k h
    have := (deal_Which.mono_l (k + m)).1 L d L n j
    exact this _ h1
theorem which_of {L : List Int} {deck : Int} {r : Int × Int} (he : (handsV deck L.length).2 = 0) (h : ∃ k, deal_Which.l0 k L deck L (L.length : Int) ((0 : Nat) : Int) = some r) : ∃ k, deal_Which.f k L deck = some r := by
  obtain ⟨k, hk⟩ := h
  refine ⟨20 + k, ?_⟩
  unfold deal_Which.f
  rw [hands_some, Option.bind_some, if_pos he]
  have := l0_more L deck r 0 L.length 20 k hk
  rw [Nat.add_comm] at this
  exact this
theorem which_is (L : List Int) (deck : Int) : ∃ k, deal_Which.f k L deck = some (whichV L deck) := by
  by_cases he : (handsV deck L.length).2 = 0
  · obtain ⟨d, m, rfl, hm, d1, d64, m1, m8, md, _, _⟩ := handsV_ok he
    obtain rfl : L.length = m := by omega
    by_cases h2 : ∃ i, i < L.length ∧ (L.getD i 0 < 0 ∨ (d : Int) ≤ L.getD i 0)
    · rw [whichV_range he h2]
      obtain ⟨i, hi, hb⟩ := h2
      exact which_of he (l0_bad L d m8 L.length 0 (by omega) ⟨i, by omega, hi, hb⟩)
    · have hr := in_range h2
      by_cases h3 : ∃ a b, a < b ∧ b < L.length ∧ L.getD a 0 = L.getD b 0
      · rw [whichV_twice he h2 h3]
        exact which_of he (l0_ok L d _ m8 hr (l1_dup L d m8 L.length 0 (Nat.le_refl _) h3) L.length 0 (by omega) (by omega))
      · rw [whichV_ok he h2 h3]
        have hu := digit_range (unlike_of h3) d64 hr
        have hs := stepN_horn d64 md m8 hu L.length (Nat.le_refl _)
        rw [Nat.sub_self] at hs
        simp only [horn] at hs
        have hl := l1_free L d m8 L.length 0 (Nat.le_refl _) (fun a b x y e => h3 ⟨a, b, x, y, e⟩)
        rw [hs] at hl
        rw [Int.toNat_natCast]
        exact which_of he (l0_ok L d _ m8 hr hl L.length 0 (by omega) (by omega))
  · rw [whichV_err he]
    refine ⟨20, ?_⟩
    unfold deal_Which.f
    rw [hands_is, Option.bind_some, if_neg he]

theorem which_any (A : Option Addr) (c : Nat) (L : List Int) (deck : Int) (w : World) (hr : Kd.C (Kd.int .i64) w A L.length L) (hc : L.length ≤ c) :
    Calls Try.prog 24 #[.slice A L.length c, .int .i64 deck] w fun e w' => e = .returned (.tuple #[.int .u64 (whichV L deck).1, .int .i64 (whichV L deck).2]) ∧ Drawn0 w w' := by
  obtain ⟨k, hk⟩ := which_is L deck
  exact deal_Which.calls k A c L deck _ _ w hr hc hk
end Go.Proofs.Ytnbnaflhijfamaa.WhichIs
