/- What a hand is told as: digits of unlike cards, and those of a dealt hand; plain lists and numbers without the program; each lemma names its own conditions. -/
import Derived.Test.YtnbnaflhijfamaaEachMath
import Derived.Test.YtnbnaflhijfamaaWhichWalk
namespace Go.Proofs.Ytnbnaflhijfamaa.WhichMath
open Go.Proofs.Ytnbnaflhijfamaa.DealMath Go.Proofs.Ytnbnaflhijfamaa.WalkDealApart Go.Proofs.Ytnbnaflhijfamaa.EachMath Go.Proofs.Ytnbnaflhijfamaa.WhichWalk

/-- Unlike numbers below m are m at most. -/
theorem few : ∀ (m : Nat) (l : List Int), l.Nodup → (∀ x, x ∈ l → 0 ≤ x ∧ x < (m : Int)) → l.length ≤ m
  | 0, l, _, h => by
    cases l with
    | nil => exact Nat.le_refl _
    | cons a l => have := h a (List.mem_cons_self ..); omega
  | m + 1, l, hd, h => by
    have h2 := few m (l.erase (m : Int)) (hd.sublist (List.erase_sublist ..)) (fun x hx => by
      have h3 := h x (List.mem_of_mem_erase hx)
      have h4 : x ≠ (m : Int) := by rintro rfl; exact absurd hx (hd.not_mem_erase)
      omega)
    rw [List.length_erase] at h2
    split at h2 <;> omega
/-- The list of the first cards below x. -/
theorem lessP_filter (L : List Int) (x : Int) : ∀ j, j ≤ L.length → lessP L x j = ((L.take j).filter (fun c => decide (c < x))).length
  | 0, _ => by simp [lessP]
  | j + 1, h => by
    have hj : j < L.length := by omega
    rw [lessP, lessP_filter L x j (by omega), List.take_succ_eq_append_getElem hj, List.filter_append, List.length_append, List.getD_eq_getElem?_getD, List.getElem?_eq_getElem hj]
    by_cases c : L[j] < x <;> simp [c]
/-- Unlike cards: each pair. -/
def Unlike (L : List Int) : Prop := ∀ a b, a < b → b < L.length → L.getD a 0 ≠ L.getD b 0
theorem Unlike.nodup {L : List Int} (h : Unlike L) : L.Nodup := by
  refine List.pairwise_iff_getElem.2 (fun i j hi hj hij e => h i j hij hj ?_)
  rw [List.getD_eq_getElem?_getD, List.getD_eq_getElem?_getD, List.getElem?_eq_getElem hi, List.getElem?_eq_getElem hj, Option.getD_some, Option.getD_some, e]
theorem digit_range {L : List Int} {d : Nat} (hu : Unlike L) (d64 : d ≤ 64) (hr : ∀ i, i < L.length → 0 ≤ L.getD i 0 ∧ L.getD i 0 < d) : ∀ i, i < L.length → 0 ≤ digit L i ∧ digit L i < 64 := by
  intro i hi
  have h := hr i hi
  obtain ⟨m, hm⟩ := Int.eq_ofNat_of_zero_le h.1
  have h2 : lessP L (L.getD i 0) i ≤ m := by
    rw [lessP_filter _ _ _ (by omega)]
    refine few m _ (hu.nodup.sublist (List.Sublist.trans List.filter_sublist (List.take_sublist ..))) (fun x hx => ?_)
    have hx2 := List.mem_filter.1 hx
    obtain ⟨k, hk, rfl⟩ := List.getElem_of_mem (List.mem_of_mem_take hx2.1)
    have h3 := hr k hk
    rw [List.getD_eq_getElem?_getD, List.getElem?_eq_getElem hk, Option.getD_some] at h3
    have h4 := of_decide_eq_true hx2.2
    omega
  unfold digit
  omega

theorem deal_rest : ∀ (n h : Nat) (left : List Int), n ≤ left.length → dealL (h % prodN left.length n) left n = dealL h left n
  | 0, _, _, _ => rfl
  | n + 1, h, left, hn => by
    obtain ⟨d, hl⟩ : ∃ d, left.length = d + 1 := ⟨left.length - 1, by omega⟩
    have hp : h % left.length < left.length := Nat.mod_lt _ (by omega)
    have hl2 : (left.eraseIdx (h % left.length)).length = d := by rw [List.length_eraseIdx_of_lt hp]; omega
    have ih := deal_rest n (h / left.length) (left.eraseIdx (h % left.length)) (by omega)
    rw [hl2] at ih
    simp only [dealL]
    have e1 : h % prodN left.length (n + 1) % left.length = h % left.length := by
      rw [hl, prodN_front]; exact Nat.mod_mul_right_mod ..
    have e2 : h % prodN left.length (n + 1) / left.length = h / left.length % prodN d n := by
      rw [hl, prodN_front]; exact Nat.mod_mul_right_div_self ..
    rw [e1, e2, ih]

/-- What is left is sorted, and each card's place is its number less the dealt ones below it. -/
structure Placed (D left : List Int) (i : Nat) : Prop where
  up : ∀ p q, p < q → q < left.length → left.getD p 0 < left.getD q 0
  at_ : ∀ q, q < left.length → left.getD q 0 - (lessP D (left.getD q 0) i : Int) = q
theorem erase_at (left : List Int) (q p : Nat) : (left.eraseIdx q).getD p 0 = if p < q then left.getD p 0 else left.getD (p + 1) 0 := by
  simp only [List.getD_eq_getElem?_getD, List.getElem?_eraseIdx]
  split <;> rfl
theorem Placed.next {D left : List Int} {i q0 : Nat} (h : Placed D left i) (hq : q0 < left.length) (hD : D.getD i 0 = left.getD q0 0) : Placed D (left.eraseIdx q0) (i + 1) := by
  have hl : (left.eraseIdx q0).length = left.length - 1 := List.length_eraseIdx_of_lt hq
  refine ⟨fun p q hpq hql => ?_, fun q hql => ?_⟩
  · rw [hl] at hql
    rw [erase_at, erase_at]
    split <;> split
    · exact h.up _ _ hpq (by omega)
    · exact h.up _ _ (by omega) (by omega)
    · omega
    · exact h.up _ _ (by omega) (by omega)
  · rw [hl] at hql
    rw [erase_at]
    simp only [lessP]
    rw [hD]
    split
    · rename_i c
      have := h.up q q0 c hq
      rw [if_neg (by omega)]
      exact h.at_ q (by omega)
    · rename_i c
      have := h.up q0 (q + 1) (by omega) (by omega)
      have := h.at_ (q + 1) (by omega)
      rw [if_pos (by omega)]
      omega
theorem deckL_at {d q : Nat} (h : q < d) : (deckL d).getD q 0 = q := by
  simp [deckL, List.getD_eq_getElem?_getD, h]
theorem dealL_at : ∀ (n h : Nat) (left : List Int) (i : Nat), i < n → (dealL h left n).getD i 0 = (leftL h left i).getD (restN h left i % (leftL h left i).length) 0
  | n + 1, h, left, 0, _ => rfl
  | n + 1, h, left, i + 1, hi => by
    simp only [dealL, leftL, restN]
    rw [List.getD_cons_succ]
    exact dealL_at n _ _ i (by omega)
theorem placed {h d n : Nat} (hn : n ≤ d) : ∀ i, i ≤ n → Placed (dealL h (deckL d) n) (leftL h (deckL d) i) i
  | 0, _ => by
    refine ⟨fun p q hpq hq => ?_, fun q hq => ?_⟩
    · simp only [leftL] at hq ⊢
      rw [deckL_length] at hq
      rw [deckL_at (by omega), deckL_at hq]; omega
    · simp only [leftL] at hq ⊢
      rw [deckL_length] at hq
      rw [deckL_at hq]; simp [lessP]
  | i + 1, hi => by
    have ih := placed hn (h := h) i (by omega)
    have hl := leftL_length i h (deckL d) (by rw [deckL_length]; omega)
    rw [deckL_length] at hl
    rw [leftL_succ]
    exact ih.next (Nat.mod_lt _ (by omega)) (dealL_at n h (deckL d) i (by omega))
theorem digit_deal {h d n i : Nat} (hn : n ≤ d) (hi : i < n) : digit (dealL h (deckL d) n) i = ((restN h (deckL d) i % (d - i) : Nat) : Int) := by
  have p := placed hn (h := h) i (by omega)
  have hl := leftL_length i h (deckL d) (by rw [deckL_length]; omega)
  rw [deckL_length] at hl
  have q := p.at_ (restN h (deckL d) i % (leftL h (deckL d) i).length) (Nat.mod_lt _ (by omega))
  unfold digit
  rw [dealL_at n h (deckL d) i hi, q, hl]
theorem horn_deal {h d n : Nat} (hn : n ≤ d) : ∀ j k, k + j = n → horn (dealL h (deckL d) n) d k j = ((restN h (deckL d) k % prodN (d - k) j : Nat) : Int)
  | 0, k, _ => by simp [horn, prodN, Nat.mod_one]
  | j + 1, k, hk => by
    have ih := horn_deal hn (h := h) j (k + 1) (by omega)
    have hl := leftL_length k h (deckL d) (by rw [deckL_length]; omega)
    rw [deckL_length] at hl
    obtain ⟨e, he⟩ : ∃ e, d - k = e + 1 := ⟨d - k - 1, by omega⟩
    simp only [horn]
    rw [ih, digit_deal hn (by omega), restN_succ, hl, show d - (k + 1) = e by omega, he, prodN_front, Nat.mod_mul]
    have hd : (d : Int) - (k : Int) = ((e + 1 : Nat) : Int) := by omega
    rw [hd, ← Int.natCast_mul, ← Int.natCast_add]
    congr 1
    rw [Nat.mul_comm, Nat.add_comm]
theorem horn_whole {h d n : Nat} (hn : n ≤ d) : horn (dealL h (deckL d) n) d 0 n = ((h % prodN d n : Nat) : Int) := horn_deal hn n 0 (by omega)
theorem deal_unlike {h d n : Nat} (hn : n ≤ d) : Unlike (dealL h (deckL d) n) := by
  intro a b hab hb e
  rw [dealL_length] at hb
  have := (hand_deal h d n hn).ne a b hab hb
  rw [e] at this
  simp at this
end Go.Proofs.Ytnbnaflhijfamaa.WhichMath
