/- Which cards are gone, how many are left below a card, and what the reference's counts are; plain lists and numbers without the program; each lemma names its own conditions. -/
import Derived.Test.YtnbnaflhijfamaaWhichMath
namespace Go.Proofs.Ytnbnaflhijfamaa.GoneMath
open Go.Proofs.Ytnbnaflhijfamaa.DealMath Go.Proofs.Ytnbnaflhijfamaa.WalkDealApart Go.Proofs.Ytnbnaflhijfamaa.EachMath Go.Proofs.Ytnbnaflhijfamaa.WhichWalk Go.Proofs.Ytnbnaflhijfamaa.WhichMath

/-- Which of the 64 cards are gone. -/
def goneL (S : List Int) : List Bool := (List.range 64).map fun (c : Nat) => decide ((c : Int) ∈ S)
theorem goneL_length (S : List Int) : (goneL S).length = 64 := by simp [goneL]
theorem goneL_nil : goneL [] = List.replicate 64 false := by decide
theorem goneL_at (S : List Int) {c : Nat} (h : c < 64) : (goneL S).getD c false = decide ((c : Int) ∈ S) := by
  simp [goneL, List.getD_eq_getElem?_getD, h]
theorem goneL_set (S : List Int) {c : Nat} (h : c < 64) : (goneL S).set c true = goneL (S ++ [(c : Int)]) := by
  refine List.ext_getElem (by simp [goneL]) (fun j hj hj' => ?_)
  rw [List.getElem_set]
  simp only [goneL, List.getElem_map, List.getElem_range]
  by_cases e : c = j
  · subst e; simp
  · rw [if_neg e]
    have : (j : Int) ≠ (c : Int) := by omega
    simp [this]
/-- How many cards below c are left. -/
def cntS (S : List Int) : Nat → Nat
  | 0 => 0
  | c + 1 => cntS S c + if (c : Int) ∈ S then 0 else 1
theorem cnt_le (S : List Int) : ∀ c, cntS S c ≤ c
  | 0 => Nat.le_refl _
  | c + 1 => by have := cnt_le S c; simp only [cntS]; split <;> omega
theorem cnt_mono (S : List Int) (a : Nat) : ∀ b, cntS S a ≤ cntS S (a + b)
  | 0 => Nat.le_refl _
  | b + 1 => by have := cnt_mono S a b; rw [← Nat.add_assoc]; simp only [cntS]; omega
theorem filt (c : Nat) : ∀ S : List Int, S.Nodup → (S.filter (fun x => decide (x < ((c + 1 : Nat) : Int)))).length = (S.filter (fun x => decide (x < (c : Int)))).length + if (c : Int) ∈ S then 1 else 0
  | [], _ => by simp
  | a :: S, h => by
    have ih := filt c S (List.nodup_cons.1 h).2
    have ha := (List.nodup_cons.1 h).1
    rw [List.filter_cons, List.filter_cons]
    rcases Int.lt_trichotomy a c with k | k | k
    · rw [if_pos (decide_eq_true (by omega)), if_pos (decide_eq_true k), List.length_cons, List.length_cons, ih]
      have : (c : Int) ≠ a := by omega
      simp only [List.mem_cons, this, false_or]
      omega
    · subst k
      rw [if_pos (decide_eq_true (by omega)), if_neg (by simp), List.length_cons, ih, if_neg ha]
      simp
    · rw [if_neg (by simp; omega), if_neg (by simp; omega), ih]
      have : (c : Int) ≠ a := by omega
      simp only [List.mem_cons, this, false_or]
theorem cnt_less (S : List Int) (hd : S.Nodup) (h0 : ∀ x, x ∈ S → 0 ≤ x) : ∀ c : Nat, cntS S c + (S.filter (fun x => decide (x < (c : Int)))).length = c
  | 0 => by
    have : S.filter (fun x => decide (x < ((0 : Nat) : Int))) = [] := List.filter_eq_nil_iff.2 (fun x hx => by have := h0 x hx; simp; omega)
    rw [this]; rfl
  | c + 1 => by
    have ih := cnt_less S hd h0 c
    rw [filt c S hd]
    simp only [cntS]
    split <;> omega
/-- A card's digit is how many cards below it are left. -/
theorem digit_cnt {L : List Int} (hu : Unlike L) (h0 : ∀ i, i < L.length → 0 ≤ L.getD i 0) {i : Nat} (hi : i < L.length) {x : Nat} (hx : L.getD i 0 = x) : digit L i = (cntS (L.take i) x : Int) := by
  have h := cnt_less (L.take i) (hu.nodup.sublist (List.take_sublist ..)) (fun y hy => by
    obtain ⟨k, hk, rfl⟩ := List.getElem_of_mem (List.mem_of_mem_take hy)
    have := h0 k hk
    rwa [List.getD_eq_getElem?_getD, List.getElem?_eq_getElem hk, Option.getD_some] at this) x
  unfold digit
  rw [lessP_filter _ _ _ (by omega), hx]
  omega
theorem mem_take_iff {L : List Int} (i : Nat) (hi : i ≤ L.length) (y : Int) : y ∈ L.take i ↔ ∃ a, a < i ∧ L.getD a 0 = y := by
  constructor
  · intro h
    obtain ⟨k, hk, rfl⟩ := List.getElem_of_mem h
    rw [List.length_take] at hk
    refine ⟨k, by omega, ?_⟩
    rw [List.getD_eq_getElem?_getD, List.getElem?_eq_getElem (by omega), Option.getD_some, List.getElem_take]
  · rintro ⟨a, ha, rfl⟩
    rw [List.getD_eq_getElem?_getD, List.getElem?_eq_getElem (by omega), Option.getD_some]
    exact List.mem_take_iff_getElem.2 ⟨a, by omega, rfl⟩
theorem take_next {L : List Int} {i : Nat} (hi : i < L.length) : L.take i ++ [L.getD i 0] = L.take (i + 1) := by
  rw [List.take_succ_eq_append_getElem hi, List.getD_eq_getElem?_getD, List.getElem?_eq_getElem hi, Option.getD_some]

/-- The next card of a deal: it is in the deck, not gone, and so many cards below it are left. -/
theorem next_card {h d i : Nat} (hi : i < d) : ∃ x : Nat, x < d ∧ dealL h (deckL d) (i + 1) = dealL h (deckL d) i ++ [(x : Int)] ∧ ¬ ((x : Int) ∈ dealL h (deckL d) i) ∧ cntS (dealL h (deckL d) i) x = restN h (deckL d) i % (d - i) := by
  have hs := dealL_succ i h (deckL d)
  have hm := hand_deal h d (i + 1) (by omega)
  have hl := dealL_length i h (deckL d)
  have hl1 := dealL_length (i + 1) h (deckL d)
  have ht := dealL_take i h (deckL d)
  have lo := of_decide_eq_false (hm.lo i (by omega))
  have hi' := of_decide_eq_false (hm.hi i (by omega))
  obtain ⟨x, hx⟩ := Int.eq_ofNat_of_zero_le (show 0 ≤ (dealL h (deckL d) (i + 1)).getD i 0 by omega)
  have e : dealL h (deckL d) (i + 1) = dealL h (deckL d) i ++ [(x : Int)] := by
    have := take_next (L := dealL h (deckL d) (i + 1)) (i := i) (by omega)
    rw [ht, hx, List.take_of_length_le (by omega)] at this
    exact this.symm
  refine ⟨x, by omega, e, ?_, ?_⟩
  · have nd := (deal_unlike (h := h) (d := d) (n := i + 1) (by omega)).nodup
    rw [e] at nd
    intro hx2
    exact (List.nodup_append.1 nd).2.2 _ hx2 _ (List.mem_cons_self ..) rfl
  · have dg := digit_deal (h := h) (d := d) (n := i + 1) (i := i) (by omega) (by omega)
    rw [digit_cnt (deal_unlike (by omega)) (fun j hj => by have := of_decide_eq_false (hm.lo j (by omega)); omega) (by omega) hx, ht] at dg
    omega
end Go.Proofs.Ytnbnaflhijfamaa.GoneMath
