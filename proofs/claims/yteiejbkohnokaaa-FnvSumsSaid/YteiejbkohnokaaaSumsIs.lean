/- What the reference's More and Sum answer: the plain hash; each text of at most 2^47 - 4096 bytes, each word a word of 64 bits. -/
import Derived.Test.YteiejbkohnokaaaOwnSums
namespace Go.Proofs.Yteiejbkohnokaaa.SumsIs
open Go.RowKit Go.Proofs.YteiejbkohnokaaaW.PrintWords Go.Proofs.YteiejbkohnokaaaW.PrintMore Go.Proofs.Yteiejbkohnokaaa.FnvMath Go.Proofs.Yteiejbkohnokaaa.FnvCalls Go.Proofs.Yteiejbkohnokaaa.OwnSums

theorem mix_bits (h c : Nat) (hh : h < 18446744073709551616) (hc : c < 256) : (h &&& 18446744073709551360) ||| ((h % 256) ^^^ c) = h ^^^ c := by
  refine Nat.eq_of_testBit_eq (fun i => ?_)
  have e : (18446744073709551360 : Nat) = (2 ^ 56 - 1) * 2 ^ 8 := by decide
  have hm : h % 256 = h % 2 ^ 8 := rfl
  rw [Nat.testBit_or, Nat.testBit_and, Nat.testBit_xor, Nat.testBit_xor, e, Nat.testBit_mul_two_pow, Nat.testBit_two_pow_sub_one, hm, Nat.testBit_mod_two_pow]
  by_cases i8 : i < 8
  · have : ¬ (8 ≤ i) := by omega
    simp [i8, this]
  · have c0 : c.testBit i = false := Nat.testBit_lt_two_pow (Nat.lt_of_lt_of_le (show c < 2 ^ 8 from hc) (Nat.pow_le_pow_right (by decide) (by omega)))
    have h8 : 8 ≤ i := by omega
    by_cases i64 : i < 64
    · have : i - 8 < 56 := by omega
      simp [i8, c0, h8, this]
    · have h0 : h.testBit i = false := Nat.testBit_lt_two_pow (Nat.lt_of_lt_of_le (show h < 2 ^ 64 from hh) (Nat.pow_le_pow_right (by decide) (by omega)))
      simp [i8, c0, h0]
theorem mix_is (h c : Nat) (hh : h < 18446744073709551616) (hc : c < 256) : Go.bits .or .u64 (Go.bits .andNot .u64 (h : Int) 255) (Go.bits .xor .u64 (Int.tmod (h : Int) 256) (c : Int)) = ((h ^^^ c : Nat) : Int) := by
  have e1 : Int.tmod (h : Int) 256 = ((h % 256 : Nat) : Int) := by rw [Int.tmod_eq_emod_of_nonneg (by omega)]; omega
  have e2 := Go.u64_andNot_nat h 255 hh (by decide)
  have e3 := Go.bits_xor_u64_nat (h % 256) c (by omega) (by omega)
  have l1 : h &&& (18446744073709551615 - 255) < 18446744073709551616 := Nat.lt_of_le_of_lt Nat.and_le_left hh
  have l2 : (h % 256) ^^^ c < 18446744073709551616 := xor_lt (by omega) (by omega)
  have e4 := Go.u64_or_nat _ _ l1 l2
  rw [e1, show (255 : Int) = ((255 : Nat) : Int) from rfl, e2, e3, e4, show 18446744073709551615 - 255 = 18446744073709551360 from rfl, mix_bits h c hh hc]
theorem step_is (x : Nat) : IntKind.u64.wrap (IntKind.u64.wrap (IntKind.u64.wrap ((x : Int) * 1099511627776) + IntKind.u64.wrap ((x : Int) * 256)) + IntKind.u64.wrap (179 * (x : Int))) = (x : Int) * 1099511628211 % 18446744073709551616 := by
  simp only [Go.IntKind.wrap_u64]
  omega
theorem ref_loop (s : ByteArray) (hs : s.size ≤ 9223372036854775807) : ∀ (d k i h : Nat), i ≤ s.size → s.size - i = d → d < k → h < 18446744073709551616 →
      usherref06_More.l0 k (h : Int) s (i : Int) = some ((hashN h (s.data.toList.drop i) : Nat) : Int) := by
  intro d
  induction d with
  | zero =>
    intro k i h hi hd hk hh
    obtain ⟨k, rfl⟩ : ∃ m, k = m + 1 := ⟨k - 1, by omega⟩
    simp only [usherref06_More.l0]
    rw [if_neg (by omega), List.drop_of_length_le (by rw [lenT]; omega)]
    rfl
  | succ d ih =>
    intro k i h hi hd hk hh
    obtain ⟨k, rfl⟩ : ∃ m, k = m + 1 := ⟨k - 1, by omega⟩
    have hlt : i < s.size := by omega
    have hl : i < s.data.toList.length := by rw [lenT]; exact hlt
    have hb : bt s (i : Int) = ((s.data.toList[i]'hl).toNat : Int) := bt_nat s i hl
    simp only [usherref06_More.l0]
    rw [if_pos (by omega), if_pos (by omega), hb, List.drop_eq_getElem_cons hl, hashN_cons]
    generalize s.data.toList[i]'hl = c
    have hc : c.toNat < 256 := c.toNat_lt
    have e1 : IntKind.u64.wrap (c.toNat : Int) = (c.toNat : Int) := by rw [Go.IntKind.wrap_u64]; omega
    have e2 : wrap64 ((i : Int) + 1) = ((i + 1 : Nat) : Int) := by unfold wrap64; omega
    rw [e1, mix_is h c.toNat hh hc, step_is, e2, stepN_cast]
    have hn := stepN_lt h c.toNat
    generalize stepN h c.toNat = h' at hn ⊢
    clear e1 e2 hb hh hc
    have a1 : i + 1 ≤ s.size := hlt
    have a2 : s.size - (i + 1) = d := by omega
    have a3 : d < k := by omega
    exact ih k (i + 1) h' a1 a2 a3 hn

theorem ref_more_any (h : Int) (h0 : 0 ≤ h) (h1 : h < 18446744073709551616) (s : ByteArray) (hs : s.size ≤ 140737488351232) (w : World) :
    Calls Try.prog 18 #[.int .u64 h, .string s] w fun e w' => e = .returned (.int .u64 (HI h s)) ∧ Drawn0 w w' := by
  have e := ref_loop s (by omega) s.size (s.size + 1) 0 h.toNat (by omega) (by omega) (by omega) (by omega)
  rw [Int.toNat_of_nonneg h0] at e
  exact usherref06_More.calls (s.size + 1) h s _ w e
theorem ref_sum_any (s : ByteArray) (hs : s.size ≤ 140737488351232) (w : World) :
    Calls Try.prog 17 #[.string s] w fun e w' => e = .returned (.int .u64 (SI s)) ∧ Drawn0 w w' := by
  have e := ref_loop s (by omega) s.size (s.size + 1) 0 14695981039346656037 (by omega) (by omega) (by omega) (by decide)
  refine usherref06_Sum.calls (s.size + 1) s _ w ?_
  have e' : usherref06_More.f (s.size + 1) 14695981039346656037 s = some (SI s) := e
  unfold usherref06_Sum.f
  rw [e']
  rfl
end Go.Proofs.Yteiejbkohnokaaa.SumsIs
