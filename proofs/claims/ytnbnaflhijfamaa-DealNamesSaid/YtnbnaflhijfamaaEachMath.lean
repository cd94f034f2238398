/- Each hand is dealt by just one rest, and other hands have other codes; plain lists and numbers without the program; each lemma names its own conditions. -/
import Derived.Test.YtnbnaflhijfamaaWalkDealApart
namespace Go.Proofs.Ytnbnaflhijfamaa.EachMath
open Go.Proofs.Ytnbnaflhijfamaa.DealMath Go.Proofs.Ytnbnaflhijfamaa.WalkDealApart

theorem prodN_front : ∀ (n d : Nat), prodN (d + 1) (n + 1) = (d + 1) * prodN d n
  | 0, d => by simp [prodN]
  | n + 1, d => by
    rw [prodN, prodN_front n d, prodN, Nat.mul_assoc]
    congr 2
    omega
theorem eq_at (left : List Int) (hd : left.Nodup) {i j : Nat} (hi : i < left.length) (hj : j < left.length) (h : left.getD i 0 = left.getD j 0) : i = j := by
  rw [List.getD_eq_getElem?_getD, List.getD_eq_getElem?_getD, List.getElem?_eq_getElem hi, List.getElem?_eq_getElem hj, Option.getD_some, Option.getD_some] at h
  rcases Nat.lt_trichotomy i j with k | k | k
  · exact absurd h (List.pairwise_iff_getElem.1 hd i j hi hj k)
  · exact k
  · exact absurd h.symm (List.pairwise_iff_getElem.1 hd j i hj hi k)
theorem dealL_inj : ∀ (n h h' : Nat) (left : List Int), left.Nodup → n ≤ left.length → h < prodN left.length n → h' < prodN left.length n → dealL h left n = dealL h' left n → h = h'
  | 0, h, h', left, _, _, a, b, _ => by simp [prodN] at a b; omega
  | n + 1, h, h', left, hd, hn, a, b, e => by
    obtain ⟨d, hl⟩ : ∃ d, left.length = d + 1 := ⟨left.length - 1, by omega⟩
    simp only [dealL, List.cons.injEq] at e
    have hp : h % left.length < left.length := Nat.mod_lt _ (by omega)
    have hp' : h' % left.length < left.length := Nat.mod_lt _ (by omega)
    have k := eq_at left hd hp hp' e.1
    have e2 := e.2
    rw [← k] at e2
    have hl2 : (left.eraseIdx (h % left.length)).length = d := by rw [List.length_eraseIdx_of_lt hp]; omega
    rw [hl, prodN_front] at a b
    have q := dealL_inj n (h / left.length) (h' / left.length) _ (hd.sublist (List.eraseIdx_sublist ..)) (by omega) (by rw [hl2, hl]; exact Nat.div_lt_of_lt_mul a) (by rw [hl2, hl]; exact Nat.div_lt_of_lt_mul b) e2
    rw [← Nat.div_add_mod h left.length, ← Nat.div_add_mod h' left.length, q, k]

/-- The code of the first cards of a hand. -/
def codeP (L : List Int) : Nat → Int
  | 0 => 0
  | k + 1 => codeP L k * 64 + L.getD k 0
theorem codeP_range (L : List Int) (h : ∀ i, 0 ≤ L.getD i 0 ∧ L.getD i 0 < 64) : ∀ k, 0 ≤ codeP L k ∧ codeP L k < 64 ^ k
  | 0 => by simp [codeP]
  | k + 1 => by
    have := codeP_range L h k
    have := h k
    simp only [codeP]
    rw [Int.pow_succ]
    omega
theorem codeP_small (L : List Int) (h : ∀ i, 0 ≤ L.getD i 0 ∧ L.getD i 0 < 64) {k : Nat} (hk : k ≤ 8) : 0 ≤ codeP L k ∧ codeP L k < 281474976710656 := by
  have := codeP_range L h k
  have h2 : ∀ i : Fin 9, (64 : Int) ^ (i : Nat) ≤ 281474976710656 := by decide +kernel
  have h3 : (64 : Int) ^ k ≤ 281474976710656 := h2 ⟨k, by omega⟩
  omega
theorem codeP_inj (L L' : List Int) (h : ∀ i, 0 ≤ L.getD i 0 ∧ L.getD i 0 < 64) (h' : ∀ i, 0 ≤ L'.getD i 0 ∧ L'.getD i 0 < 64) : ∀ k, codeP L k = codeP L' k → ∀ i, i < k → L.getD i 0 = L'.getD i 0
  | 0, _, i, hi => by omega
  | k + 1, e, i, hi => by
    simp only [codeP] at e
    have a := h k
    have b := h' k
    have e1 : codeP L k = codeP L' k := by omega
    have e2 : L.getD k 0 = L'.getD k 0 := by omega
    rcases Nat.lt_or_ge i k with c | c
    · exact codeP_inj L L' h h' k e1 i c
    · obtain rfl : i = k := by omega
      exact e2
theorem deal_card {h d n : Nat} (hn : n ≤ d) (d64 : d ≤ 64) : ∀ i, 0 ≤ (dealL h (deckL d) n).getD i 0 ∧ (dealL h (deckL d) n).getD i 0 < 64 := by
  intro i
  rcases Nat.lt_or_ge i n with hi | hi
  · have := deckL_mem (dealL_sub n h (deckL d) (by rw [deckL_length]; exact hn) ((dealL h (deckL d) n).getD i 0) (by
      rw [List.getD_eq_getElem?_getD, List.getElem?_eq_getElem (by rw [dealL_length]; exact hi)]
      exact List.getElem_mem _))
    omega
  · rw [List.getD_eq_getElem?_getD, List.getElem?_eq_none (by rw [dealL_length]; exact hi)]
    exact ⟨by decide, by decide⟩
theorem code_ne {d n : Nat} (hn : n ≤ d) (d64 : d ≤ 64) {j k : Nat} (hj : j < prodN d n) (hk : k < prodN d n) (hjk : j ≠ k) : codeP (dealL j (deckL d) n) n ≠ codeP (dealL k (deckL d) n) n := by
  intro e
  refine hjk (dealL_inj n j k (deckL d) (deckL_nodup d) (by rw [deckL_length]; exact hn) (by rw [deckL_length]; exact hj) (by rw [deckL_length]; exact hk) ?_)
  have := codeP_inj _ _ (deal_card hn d64) (deal_card hn d64) n e
  refine List.ext_getElem (by rw [dealL_length, dealL_length]) (fun i hi hi' => ?_)
  have q := this i (by rw [dealL_length] at hi; exact hi)
  rw [List.getD_eq_getElem?_getD, List.getD_eq_getElem?_getD, List.getElem?_eq_getElem hi, List.getElem?_eq_getElem hi'] at q
  simpa using q
end Go.Proofs.Ytnbnaflhijfamaa.EachMath
