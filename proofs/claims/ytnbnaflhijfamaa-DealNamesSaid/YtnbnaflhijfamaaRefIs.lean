/- What the reference's Which and Deal answer, in the plain numbers of the program's: the same; no condition beyond the sizes that each names. -/
import Derived.Test.YtnbnaflhijfamaaRefWhich
import Derived.Test.YtnbnaflhijfamaaWalkDealWhole
namespace Go.Proofs.Ytnbnaflhijfamaa.RefIs
open Go.RowKit Go.Proofs.YtnbnaflhijfamaaW.PrintWords Go.Proofs.YtnbnaflhijfamaaW.PrintMore Go.Proofs.Ytnbnaflhijfamaa.DealMath Go.Proofs.Ytnbnaflhijfamaa.HandsIs Go.Proofs.Ytnbnaflhijfamaa.WhichWalk Go.Proofs.Ytnbnaflhijfamaa.WhichMath Go.Proofs.Ytnbnaflhijfamaa.WhichIs Go.Proofs.Ytnbnaflhijfamaa.GoneMath Go.Proofs.Ytnbnaflhijfamaa.GoneMem Go.Proofs.Ytnbnaflhijfamaa.RefWhich Go.Proofs.Ytnbnaflhijfamaa.WalkDealWhole

theorem valV_is {L : List Int} {d : Nat} (hu : Unlike L) (d64 : d ≤ 64) (n8 : L.length ≤ 8) (nd : L.length ≤ d) (hr : ∀ i, i < L.length → 0 ≤ L.getD i 0 ∧ L.getD i 0 < d) : ∀ i, i ≤ L.length →
    (valV L d i).2 = (prodN d i : Int) ∧ 0 ≤ (valV L d i).1 ∧ (valV L d i).1 + (prodN d i : Int) * horn L d i (L.length - i) = horn L d 0 L.length
  | 0, _ => by simp [valV, prodN]
  | i + 1, hi => by
    obtain ⟨h2, h0, h1⟩ := valV_is hu d64 n8 nd hr i (by omega)
    have hx := hr i (by omega)
    obtain ⟨x, hx2⟩ := Int.eq_ofNat_of_zero_le hx.1
    have dg := digit_cnt hu (fun j hj => (hr j hj).1) (show i < L.length by omega) hx2
    have dr := digit_range hu d64 hr i (by omega)
    have hh := horn_range d64 (digit_range hu d64 hr) L.length 0 (by omega) (by omega)
    have hp := pow8 n8
    have hg := horn_range d64 (digit_range hu d64 hr) (L.length - (i + 1)) (i + 1) (by omega) (by omega)
    rw [show L.length - i = (L.length - (i + 1)) + 1 by omega] at h1
    simp only [horn] at h1
    have ps : prodN d (i + 1) ≤ 281474976710656 := prodN_small d64 (by omega)
    have ps0 : prodN d i ≤ 281474976710656 := prodN_small d64 (by omega)
    have e1 : IntKind.u64.wrap ((d : Int) - (i : Int)) = (d : Int) - (i : Int) := by rw [Go.IntKind.wrap_u64]; omega
    have pe : (prodN d i : Int) * ((d : Int) - (i : Int)) = (prodN d (i + 1) : Int) := by
      rw [prodN, Int.natCast_mul, Int.ofNat_sub (by omega)]
    have k1 : (0 : Int) ≤ digit L i * (prodN d i : Int) := Int.mul_nonneg dr.1 (by omega)
    have k2 : digit L i * (prodN d i : Int) ≤ 64 * (prodN d i : Int) := Int.mul_le_mul_of_nonneg_right (by omega) (by omega)
    have k3 : 0 ≤ (prodN d (i + 1) : Int) * horn L d (i + 1) (L.length - (i + 1)) := Int.mul_nonneg (by omega) hg.1
    have h3 : (valV L d i).1 + digit L i * (prodN d i : Int) + (prodN d (i + 1) : Int) * horn L d (i + 1) (L.length - (i + 1)) = horn L d 0 L.length := by
      rw [← h1, Int.mul_add, ← pe, Int.mul_comm (digit L i), Int.mul_comm (horn L d (i + 1) (L.length - (i + 1))), ← Int.mul_assoc]
      omega
    simp only [valV]
    rw [hx2, Int.toNat_natCast, ← dg, h2, e1, pe]
    generalize digit L i * (prodN d i : Int) = t at *
    generalize (prodN d (i + 1) : Int) * horn L d (i + 1) (L.length - (i + 1)) = u at *
    have e2 : IntKind.u64.wrap t = t := by rw [Go.IntKind.wrap_u64]; omega
    rw [e2]
    have e3 : IntKind.u64.wrap ((valV L d i).1 + t) = (valV L d i).1 + t := by rw [Go.IntKind.wrap_u64]; omega
    have e4 : IntKind.u64.wrap (prodN d (i + 1) : Int) = (prodN d (i + 1) : Int) := by rw [Go.IntKind.wrap_u64]; omega
    rw [e3, e4]
    exact ⟨rfl, by omega, h3⟩

theorem cells_of {A : Option Addr} {L : List Int} {w : World} (hr : Kd.C (Kd.int .i64) w A L.length L) (h1 : 0 < L.length) : ∃ ad, A = some ad ∧ ∀ W, Below w.heap.size w W → ∀ i, i < L.length → W.cell? (ad.add i) = some (.int .i64 (L.getD i 0)) := by
  obtain ⟨ad, rfl, _⟩ := Kd.at_int hr 0 (by omega) (by omega)
  refine ⟨ad, rfl, fun W hB i hi => ?_⟩
  obtain ⟨ad', e, hc⟩ := Kd.at_int (Kd.C_below hr hB) i (by omega) (by omega)
  cases e
  rw [rd_at] at hc
  simpa using hc

/-- The first card that stands ahead already. -/
theorem first_twice (L : List Int) : ∀ n, n ≤ L.length → (∀ i, i < n → ¬ (L.getD i 0 ∈ L.take i)) ∨ ∃ b, b < n ∧ (∀ i, i < b → ¬ (L.getD i 0 ∈ L.take i)) ∧ L.getD b 0 ∈ L.take b
  | 0, _ => .inl (fun i hi => by omega)
  | n + 1, h => by
    rcases first_twice L n (by omega) with k | ⟨b, hb, h1, h2⟩
    · by_cases c : L.getD n 0 ∈ L.take n
      · exact .inr ⟨n, by omega, k, c⟩
      · refine .inl (fun i hi => ?_)
        rcases Nat.lt_or_ge i n with g | g
        · exact k i g
        · obtain rfl : i = n := by omega
          exact c
    · exact .inr ⟨b, by omega, h1, h2⟩

theorem ref_which_any (A : Option Addr) (c : Nat) (L : List Int) (deck : Int) (w : World) (hr : Kd.C (Kd.int .i64) w A L.length L) :
    Calls Try.prog 25 #[.slice A L.length c, .int .i64 deck] w fun e w' => e = .returned (.tuple #[.int .u64 (whichV L deck).1, .int .i64 (whichV L deck).2]) ∧ Below w.heap.size w w' := by
  by_cases he : (handsV deck L.length).2 = 0
  · obtain ⟨d, m, rfl, hm, d1, d64, m1, m8, md, _, _⟩ := handsV_ok he
    obtain rfl : L.length = m := by omega
    obtain ⟨ad, rfl, hc⟩ := cells_of hr (by omega)
    by_cases h2 : ∃ i, i < L.length ∧ (L.getD i 0 < 0 ∨ (d : Int) ≤ L.getD i 0)
    · rw [whichV_range he h2]
      obtain ⟨i, hi, hb⟩ := h2
      exact range ad L.length c L d w (by omega) ⟨hc w (Below.refl _ _)⟩ he i hi hb
    · have hg := in_range h2
      rcases first_twice L L.length (Nat.le_refl _) with hf | ⟨b, hb, h1, h3⟩
      · have h4 : ¬ ∃ a b, a < b ∧ b < L.length ∧ L.getD a 0 = L.getD b 0 := by
          rintro ⟨a, b, hab, hb, e⟩
          exact hf b hb ((mem_take_iff b (by omega) _).2 ⟨a, hab, e⟩)
        rw [whichV_ok he h2 h4, Int.toNat_natCast]
        have hv := valV_is (unlike_of h4) d64 m8 md hg L.length (Nat.le_refl _)
        rw [Nat.sub_self] at hv
        simp only [horn, Int.mul_zero, Int.add_zero] at hv
        exact told ad L.length c d L.length L w m8 d64 ⟨rfl⟩ (Nat.le_refl _) ⟨hc⟩ he ⟨hg⟩ ⟨hf⟩ ⟨fun h => absurd h (Nat.lt_irrefl _)⟩ _ _ ⟨fun h => absurd h (Nat.lt_irrefl _)⟩ ⟨fun _ => ⟨hv.2.2.symm, rfl⟩⟩
      · have h4 : ∃ a b, a < b ∧ b < L.length ∧ L.getD a 0 = L.getD b 0 := by
          obtain ⟨a, ha, e⟩ := (mem_take_iff b (by omega) _).1 h3
          exact ⟨a, b, ha, hb, e⟩
        rw [whichV_twice he h2 h4]
        exact told ad L.length c d b L w m8 d64 ⟨rfl⟩ (by omega) ⟨hc⟩ he ⟨hg⟩ ⟨h1⟩ ⟨fun _ => h3⟩ _ _ ⟨fun _ => ⟨rfl, rfl⟩⟩ ⟨fun h => by omega⟩
  · rw [whichV_err he]
    exact err A L.length c deck w he

set_option maxHeartbeats 400000 in
theorem ref_deal_no (h deck n : Int) (he : (handsV deck n).2 ≠ 0) (w : World) :
    Calls Try.prog 19 #[.int .u64 h, .int .i64 deck, .int .i64 n] w fun e w' => e = .returned (.tuple #[.slice none 0 0, .int .i64 (handsV deck n).2]) ∧ Drawn0 w w' := by
  have c := Aside0.mk (ref_hands_any deck n)
  generalize (handsV deck n).1 = a at c
  generalize (handsV deck n).2 = b at c he ⊢
  have t : (b != 0) = true := bne_iff_ne.mpr he
  have t2 : (b == 0) = false := beq_eq_false_iff_ne.mpr he
  clear he
  go_enter Try.func19, Try.ntmps19
  go_wp2_with (go_at_call 21; (with_reducible refine (c.out _).mono ?_); rintro e w' ⟨rfl, ⟨nw, rfl⟩⟩)
  go_ret2
  exact ⟨rfl, by repeat (first | exact Drawn0.refl _ | apply Drawn0.step)⟩
theorem ref_deal_ok (h : Nat) (deck n : Int) (hh : h < 18446744073709551616) (he : (handsV deck n).2 = 0) (w : World) :
    Calls Try.prog 19 #[.int .u64 h, .int .i64 deck, .int .i64 n] w fun e w' => ∃ v, e = .returned (.tuple #[v, .int .i64 0]) ∧ w'.ownsRow (w.heap.size + 1) 3 1 v n.toNat ((dealL h (deckL deck.toNat) n.toNat).map (Value.int .i64)) ∧ Below w.heap.size w w' := by
  have c := ref_hands_any deck n
  rw [he] at c
  obtain ⟨d, m, rfl, rfl, d1, d64, m1, m8, md, _, _⟩ := handsV_ok he
  exact ref_deal h d m _ hh d64 m1 m8 md w ⟨c⟩
end Go.Proofs.Ytnbnaflhijfamaa.RefIs
