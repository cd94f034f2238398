/- The hash FNV-1a with 64 bits as a plain function on natural numbers and lists of bytes; no condition beyond the sizes that each lemma names. -/
import Derived.Test.YteiejbkohnokaaaWWords
import Derived.Laws.Bits64
namespace Go.Proofs.Yteiejbkohnokaaa.FnvMath
open Go.RowKit Go.Proofs.YteiejbkohnokaaaW.PrintWords

/-- One byte. -/
def stepN (h c : Nat) : Nat := ((h ^^^ c) * 1099511628211) % 18446744073709551616
theorem stepN_cast (h c : Nat) : ((h ^^^ c : Nat) : Int) * 1099511628211 % 18446744073709551616 = ((stepN h c : Nat) : Int) := by unfold stepN; omega
/-- Some bytes. -/
def hashN (h : Nat) (l : List UInt8) : Nat := l.foldl (fun h c => stepN h c.toNat) h

theorem stepN_lt (h c : Nat) : stepN h c < 18446744073709551616 := Nat.mod_lt _ (by decide)
theorem hashN_lt (l : List UInt8) : ∀ h, h < 18446744073709551616 → hashN h l < 18446744073709551616 := by
  induction l with
  | nil => intro h hh; exact hh
  | cons c l ih => intro h _; exact ih _ (stepN_lt _ _)
theorem hashN_append (h : Nat) (a b : List UInt8) : hashN h (a ++ b) = hashN (hashN h a) b := List.foldl_append ..
theorem hashN_cons (h : Nat) (c : UInt8) (l : List UInt8) : hashN h (c :: l) = hashN (stepN h c.toNat) l := rfl
theorem hashN_nil (h : Nat) : hashN h [] = h := rfl

/-- The multiplier is odd: it has an inverse. -/
theorem mul_inj {a b : Nat} (ha : a < 18446744073709551616) (hb : b < 18446744073709551616) (h : (a * 1099511628211) % 18446744073709551616 = (b * 1099511628211) % 18446744073709551616) : a = b := by
  have e : ∀ x : Nat, ((x * 1099511628211) % 18446744073709551616 * 14886173955864302971) % 18446744073709551616 = x % 18446744073709551616 := by
    intro x
    rw [Nat.mod_mul_mod, Nat.mul_assoc, Nat.mul_mod, show 1099511628211 * 14886173955864302971 % 18446744073709551616 = 1 by decide, Nat.mul_one, Nat.mod_mod]
  have h1 := e a
  have h2 := e b
  rw [h] at h1
  rw [h1] at h2
  rw [Nat.mod_eq_of_lt ha, Nat.mod_eq_of_lt hb] at h2
  exact h2

theorem xor_lt {a b : Nat} (ha : a < 18446744073709551616) (hb : b < 18446744073709551616) : a ^^^ b < 18446744073709551616 := Nat.xor_lt_two_pow (n := 64) ha hb

theorem stepN_inj_left {g h c : Nat} (hg : g < 18446744073709551616) (hh : h < 18446744073709551616) (hc : c < 256) (e : stepN g c = stepN h c) : g = h := by
  have k := mul_inj (xor_lt hg (by omega)) (xor_lt hh (by omega)) e
  have : (g ^^^ c) ^^^ c = (h ^^^ c) ^^^ c := by rw [k]
  rwa [Nat.xor_assoc, Nat.xor_self, Nat.xor_zero, Nat.xor_assoc, Nat.xor_self, Nat.xor_zero] at this
theorem stepN_inj_right {h a b : Nat} (hh : h < 18446744073709551616) (ha : a < 256) (hb : b < 256) (e : stepN h a = stepN h b) : a = b := by
  have k := mul_inj (xor_lt hh (by omega)) (xor_lt hh (by omega)) e
  have : h ^^^ (h ^^^ a) = h ^^^ (h ^^^ b) := by rw [k]
  rwa [← Nat.xor_assoc, Nat.xor_self, Nat.zero_xor, ← Nat.xor_assoc, Nat.xor_self, Nat.zero_xor] at this
theorem hashN_inj (l : List UInt8) : ∀ g h, g < 18446744073709551616 → h < 18446744073709551616 → hashN g l = hashN h l → g = h := by
  induction l with
  | nil => intro g h _ _ e; exact e
  | cons c l ih => intro g h hg hh e; exact stepN_inj_left hg hh (by have := c.toNat_lt; omega) (ih _ _ (stepN_lt _ _) (stepN_lt _ _) e)
theorem hashN_last {h : Nat} (hh : h < 18446744073709551616) (l : List UInt8) {a b : UInt8} : hashN h (l ++ [a]) = hashN h (l ++ [b]) ↔ a = b := by
  constructor
  · intro e
    rw [hashN_append, hashN_append, hashN_cons, hashN_cons, hashN_nil, hashN_nil] at e
    exact UInt8.toNat_inj.1 (stepN_inj_right (hashN_lt l h hh) (by have := a.toNat_lt; omega) (by have := b.toNat_lt; omega) e)
  · rintro rfl; rfl

theorem bt_nat (s : ByteArray) (i : Nat) (hl : i < s.data.toList.length) : bt s (i : Int) = ((s.data.toList[i]'hl).toNat : Int) := by
  have hlt : i < s.size := by rw [Array.length_toList] at hl; exact hl
  unfold bt
  rw [dif_pos (by simpa using hlt)]
  rfl
theorem lenT (s : ByteArray) : s.data.toList.length = s.size := by rw [Array.length_toList]; rfl
/-- The loop that the print tells, of whatever law. -/
theorem loop_gen (L : Nat → Int → ByteArray → Int → Int → Option Int)
    (hL : ∀ k x0 x1 x7 x8, L (k + 1) x0 x1 x7 x8 = if x8 < x7 then (if 0 ≤ x8 then (if x8 < (x1.size : Int) then (L k (IntKind.u64.wrap ((Go.bits .xor .u64 x0 (IntKind.u64.wrap (bt x1 x8))) * 1099511628211)) x1 x7 (wrap64 (x8 + 1))) else (none)) else (none)) else (some x0))
    (s : ByteArray) (hs : s.size ≤ 9223372036854775807) : ∀ (d k i h : Nat), i ≤ s.size → s.size - i = d → d < k → h < 18446744073709551616 →
      L k (h : Int) s (s.size : Int) (i : Int) = some ((hashN h (s.data.toList.drop i) : Nat) : Int) := by
  intro d
  induction d with
  | zero =>
    intro k i h hi hd hk hh
    obtain ⟨k, rfl⟩ : ∃ m, k = m + 1 := ⟨k - 1, by omega⟩
    rw [hL, if_neg (by omega), List.drop_of_length_le (by rw [lenT]; omega)]
    rfl
  | succ d ih =>
    intro k i h hi hd hk hh
    obtain ⟨k, rfl⟩ : ∃ m, k = m + 1 := ⟨k - 1, by omega⟩
    have hlt : i < s.size := by omega
    have hl : i < s.data.toList.length := by rw [lenT]; exact hlt
    have hb : bt s (i : Int) = ((s.data.toList[i]'hl).toNat : Int) := bt_nat s i hl
    rw [hL, if_pos (by omega), if_pos (by omega), if_pos (by omega), hb, List.drop_eq_getElem_cons hl, hashN_cons]
    generalize s.data.toList[i]'hl = c
    have hc := c.toNat_lt
    have e1 : IntKind.u64.wrap (c.toNat : Int) = (c.toNat : Int) := by rw [Go.IntKind.wrap_u64]; omega
    have e2 : wrap64 ((i : Int) + 1) = ((i + 1 : Nat) : Int) := by unfold wrap64; omega
    rw [e1, Go.bits_xor_u64_nat h c.toNat hh (by omega), e2, Go.IntKind.wrap_u64]
    rw [stepN_cast]
    have hn := stepN_lt h c.toNat
    generalize stepN h c.toNat = h' at hn ⊢
    clear e1 e2 hb hL hh hc
    have a1 : i + 1 ≤ s.size := hlt
    have a2 : s.size - (i + 1) = d := by omega
    have a3 : d < k := by omega
    exact ih k (i + 1) h' a1 a2 a3 hn

theorem wf_u64 {a : Int} (h : (Lit.int .u64 a).wf = true) : 0 ≤ a ∧ a < 18446744073709551616 := by
  simp [Lit.wf, IntKind.min, IntKind.max, IntKind.signed, IntKind.bits] at h
  omega

theorem awake_sum : hashN 14695981039346656037 [102, 111, 111, 98, 97, 114] = 9625390261332436968 := by decide +kernel
end Go.Proofs.Yteiejbkohnokaaa.FnvMath
