/- The walk of the law DealApart: it returns true for every number, deck and length of a hand; below its own memory the world stays as it was. -/
import Derived.Test.YtnbnaflhijfamaaDealLaws
namespace Go.Proofs.Ytnbnaflhijfamaa.WalkDealApart
open Go.RowKit Go.Proofs.YtnbnaflhijfamaaW.PrintWords Go.Proofs.YtnbnaflhijfamaaW.PrintMore Go.Proofs.Ytnbnaflhijfamaa.DealMem Go.Proofs.Ytnbnaflhijfamaa.DealMath Go.Proofs.Ytnbnaflhijfamaa.DealWalk Go.Proofs.Ytnbnaflhijfamaa.HandsIs Go.Proofs.Ytnbnaflhijfamaa.PDealAll Go.Proofs.Ytnbnaflhijfamaa.DealLaws

theorem part_at (left : List Int) (k : Nat) (hk : k < left.length) : left = left.take k ++ left.getD k 0 :: left.drop (k + 1) := by
  rw [List.getD_eq_getElem?_getD, List.getElem?_eq_getElem hk, Option.getD_some, ← List.drop_eq_getElem_cons hk, List.take_append_drop]
theorem dealL_sub : ∀ (n h : Nat) (left : List Int), n ≤ left.length → ∀ x, x ∈ dealL h left n → x ∈ left
  | 0, _, _, _, x, hx => by simp [dealL] at hx
  | n + 1, h, left, hn, x, hx => by
    have hp : h % left.length < left.length := Nat.mod_lt _ (by omega)
    simp only [dealL, List.mem_cons] at hx
    rcases hx with rfl | hx
    · rw [List.getD_eq_getElem?_getD, List.getElem?_eq_getElem hp]; exact List.getElem_mem _
    · have := dealL_sub n _ _ (by rw [List.length_eraseIdx_of_lt hp]; omega) x hx
      exact List.mem_of_mem_eraseIdx this
theorem dealL_nodup : ∀ (n h : Nat) (left : List Int), n ≤ left.length → left.Nodup → (dealL h left n).Nodup
  | 0, _, _, _, _ => List.nodup_nil
  | n + 1, h, left, hn, hd => by
    have hp : h % left.length < left.length := Nat.mod_lt _ (by omega)
    have e := part_at left _ hp
    have hd' := hd
    rw [e] at hd
    simp only [dealL]
    have hl : n ≤ (left.eraseIdx (h % left.length)).length := by rw [List.length_eraseIdx_of_lt hp]; omega
    refine List.nodup_cons.2 ⟨fun hx => ?_, dealL_nodup n _ _ hl (hd'.sublist (List.eraseIdx_sublist ..))⟩
    have := dealL_sub n _ _ hl _ hx
    rw [List.eraseIdx_eq_take_drop_succ] at this
    have hd2 := List.nodup_append.1 hd
    rcases List.mem_append.1 this with h1 | h1
    · exact hd2.2.2 _ h1 _ (List.mem_cons_self ..) rfl
    · exact (List.nodup_cons.1 hd2.2.1).1 h1
theorem deckL_nodup (d : Nat) : (deckL d).Nodup := by
  unfold deckL
  exact List.pairwise_map.2 (List.nodup_range.imp (fun h e => h (Int.ofNat.inj e)))
theorem deckL_mem {d : Nat} {x : Int} (h : x ∈ deckL d) : 0 ≤ x ∧ x < d := by
  unfold deckL at h
  simp at h
  omega
theorem dealL_take : ∀ (n h : Nat) (left : List Int), (dealL h left (n + 1)).take n = dealL h left n := by
  intro n h left
  rw [dealL_succ, List.take_append_of_le_length (by rw [dealL_length]; exact Nat.le_refl _), List.take_of_length_le (by rw [dealL_length]; exact Nat.le_refl _)]
theorem handsV_less {d n : Nat} (hn : 1 < n) (he : (handsV d n).2 = 0) : (handsV d ((n : Int) - 1)).2 = 0 := by
  obtain ⟨d', n', h1, h2, d1, d64, n1, n8, nd, hp, _⟩ := handsV_ok he
  obtain rfl : d = d' := by omega
  obtain rfl : n = n' := by omega
  obtain ⟨m, rfl⟩ : ∃ m, n = m + 1 := ⟨n - 1, by omega⟩
  rw [handsV_in (by omega) (by omega) (by omega) (by omega), if_neg (by omega)]
  have e : ((((m + 1 : Nat) : Int) - 1)).toNat = m := by omega
  have ed : ((d : Nat) : Int).toNat = d := Int.toNat_natCast d
  rw [e, ed]
  have : prodN d m ≤ prodN d (m + 1) := Nat.le_mul_of_pos_right _ (by omega)
  rw [if_neg (by omega)]

/-- What the walk asks of a hand. -/
structure Hand (L : List Int) (d n : Nat) : Prop where
  len : L.length = n
  lo : ∀ i, i < n → decide (L.getD i 0 < 0) = false
  hi : ∀ i, i < n → decide ((d : Int) ≤ L.getD i 0) = false
  ne : ∀ k i, k < i → i < n → (L.getD k 0 == L.getD i 0) = false
theorem hand_deal (h d n : Nat) (hn : n ≤ d) : Hand (dealL h (deckL d) n) d n := by
  have hl := dealL_length n h (deckL d)
  have hs : ∀ i, i < n → 0 ≤ (dealL h (deckL d) n).getD i 0 ∧ (dealL h (deckL d) n).getD i 0 < d := by
    intro i hi
    refine deckL_mem (dealL_sub n h (deckL d) (by rw [deckL_length]; exact hn) _ ?_)
    rw [List.getD_eq_getElem?_getD, List.getElem?_eq_getElem (by omega)]
    exact List.getElem_mem _
  refine ⟨hl, fun i hi => decide_eq_false (by have := hs i hi; omega), fun i hi => decide_eq_false (by have := hs i hi; omega), fun k i hk hi => ?_⟩
  have nd := dealL_nodup n h (deckL d) (by rw [deckL_length]; exact hn) (deckL_nodup d)
  rw [beq_eq_false_iff_ne, List.getD_eq_getElem?_getD, List.getD_eq_getElem?_getD, List.getElem?_eq_getElem (by omega), List.getElem?_eq_getElem (by omega)]
  intro e
  exact List.pairwise_iff_getElem.1 nd k i (by omega) (by omega) hk (by simpa using e)

theorem C_cut {w : World} {g : Nat} {L : List Int} (h : blkL w g L) (m : Nat) (hm : m ≤ L.length) (hl : L.length ≤ 9223372036854775807) : Kd.C (Kd.int .i64) w (some ⟨g, 0, none⟩) (L.take m).length (L.take m) := by
  have hlen : (L.take m).length = m := by simp; omega
  refine ⟨rfl, by omega, fun _ => ⟨_, rfl, fun j p hp => ?_⟩⟩
  have hj : j < m := by
    rcases Nat.lt_or_ge j m with h' | h'
    · exact h'
    · rw [List.getElem?_eq_none (by omega)] at hp; cases hp
  refine ⟨[.int .i64 p], rfl, rfl, fun i u hi => ?_⟩
  cases i with
  | zero =>
    simp at hi; subst hi
    have := blkL_cell h j (by omega)
    rw [List.getElem?_take_of_lt hj] at hp
    rw [List.getD_eq_getElem?_getD, hp] at this
    rw [add_plain]
    simpa [Kd.int, Kd.scalar] using this
  | succ i => simp at hi

set_option maxHeartbeats 2000000 in
theorem walk (h : Int) (d n : Nat) (L : List Int) (w : World) (n1 : 1 ≤ n) (n8 : n ≤ 8) (H : Hand L d n)
    (c1 : Aside0 (∀ w, Calls Try.prog 18 #[.int .u64 h, .int .i64 (d : Int), .int .i64 (n : Int)] w (Dealt w L)))
    (c2 : Aside0 (1 < n → ∀ w, Calls Try.prog 18 #[.int .u64 h, .int .i64 (d : Int), .int .i64 ((n : Int) - 1)] w (Dealt w (L.take (n - 1))))) :
    Calls Try.prog 7 #[.int .u64 h, .int .i64 (d : Int), .int .i64 (n : Int)] w fun e w' => e = .returned (.bool true) ∧ Below w.heap.size w w' := by
  go_enter Try.func7, Try.ntmps7
  go_wp2_with fail
  refine (awake_any _).mono ?_
  rintro e w0 ⟨rfl, hB0⟩
  have HB0 := Aside0.mk hB0
  clear hB0
  go_wp2_with fail
  refine (c1.out _).mono ?_
  rintro e w1 ⟨g, rfl, hg, hb, hB⟩
  have HB := Aside0.mk (below_step HB0.out hB)
  have Hb := Aside0.mk hb
  have hg' := Aside0.mk (show w.heap.size ≤ g by have := HB0.out.size; omega)
  clear hB hb HB0 hg
  have HL := Aside0.mk H.len
  rw [HL.out]
  go_wp2_with fail
  go_loopw [9] (fun s wr => ∃ i : Nat, i ≤ n ∧ s = .int .i64 i ∧ Drawn0 w1 wr) (fun s _ => n - (intOf s).toNat)
  case atStart => exact ⟨0, by omega, rfl, Drawn0.refl _⟩
  case round =>
    obtain ⟨i, hi, rfl, hd⟩ := hrel
    obtain ⟨q, rfl⟩ := hd
    by_cases hin : i < n
    · have hl : decide ((i : Int) < (n : Int)) = true := decide_eq_true (by omega)
      have ci := blkL_cell Hb.out i (by rw [HL.out]; exact hin)
      have t1 := H.lo i hin
      have t2 := H.hi i hin
      have Hne := Aside0.mk (fun k (hk : k < i) => H.ne k i hk hin)
      generalize hx : L.getD i 0 = x at ci t1 t2 Hne
      clear hx
      go_wp2_with fail
      go_loopw [10] (fun s wr => ∃ k : Nat, k ≤ i ∧ s = .int .i64 k ∧ Drawn0 w1 wr) (fun s _ => i - (intOf s).toNat)
      case atStart => exact ⟨0, by omega, rfl, Drawn0.step (Drawn0.refl _) _⟩
      case round =>
        obtain ⟨k, hk, rfl, hd2⟩ := hrel
        obtain ⟨q2, rfl⟩ := hd2
        by_cases hki : k < i
        · have hl2 : decide ((k : Int) < (i : Int)) = true := decide_eq_true (by omega)
          have ck := blkL_cell Hb.out k (by rw [HL.out]; omega)
          have t3 := Hne.out k hki
          generalize hy : L.getD k 0 = y at ck t3
          clear hy
          have p1 : (k : Int) < (n : Int) := by omega
          have p2 : (i : Int) < (n : Int) := by omega
          go_wp2_with fail
          go_quiet (fail)
          go_wp2_with fail
          go_roundw
          case rel => exact ⟨k + 1, by omega, by go_num, by repeat (first | exact Drawn0.refl _ | apply Drawn0.step)⟩
          case measure => simp [intOf]; omega
        · have hl2 : decide ((k : Int) < (i : Int)) = false := decide_eq_false (by omega)
          go_wp2_with fail
          go_roundw
          case rel => exact ⟨i + 1, by omega, by go_num, by repeat (first | exact Drawn0.refl _ | apply Drawn0.step)⟩
          case measure => simp [intOf]; omega
    · obtain rfl : n = i := by omega
      by_cases h1 : 1 < n
      · have hl3 : decide ((1 : Int) < (n : Int)) = true := decide_eq_true (by omega)
        have c3 := Aside0.mk (c2.out h1)
        have HL2 := Aside0.mk (show (L.take (n - 1)).length = n - 1 by rw [List.length_take, HL.out]; omega)
        clear c1 c2
        go_wp2_with fail
        refine (c3.out _).mono ?_
        rintro e w2 ⟨g2, rfl, hg2, hb2, hB2⟩
        have HB2 := Aside0.mk (below_step (pw_below_drewN HB.out q) hB2)
        have Hb2 := Aside0.mk hb2
        have Hb3 := Aside0.mk (show blkL w2 g L from blk_below (blkL_drewN Hb.out q) hB2)
        clear hB2 hb2 hg2
        rw [HL2.out]
        obtain ⟨m, hm⟩ : ∃ m, m = n - 1 := ⟨_, rfl⟩
        have e1 : (n : Int) - 1 = (m : Int) := by omega
        have Hm := Aside0.mk hm
        have mn : m ≤ n := by omega
        have mn' : (m : Int) ≤ (n : Int) := by omega
        rw [← hm]
        clear hm
        rw [← Hm.out] at HL2 Hb2
        go_wp2_with fail
        have ll := HL2.out
        have S := same_any (some ⟨g2, 0, none⟩) (some ⟨g, 0, none⟩) m n (L.take m) (by omega) w2 (blk_C Hb2.out (by omega)) (by omega) (C_cut Hb3.out m (by rw [HL.out]; exact mn) (by rw [HL.out]; omega)) (by omega)
        rw [ll] at S
        refine S.mono ?_
        rintro e w3 ⟨rfl, hd3⟩
        have HB3 := Aside0.mk (below_step HB2.out hd3.below)
        clear hd3 S ll
        go_wp2_with fail
        go_ret
        exact ⟨rfl, HB3.out⟩
      · have hl3 : decide ((1 : Int) < (n : Int)) = false := decide_eq_false (by omega)
        go_wp2_with fail
        go_ret
        exact ⟨rfl, pw_below_drewN HB.out q⟩

set_option maxHeartbeats 1000000 in
theorem walk_no (h deck n : Int) (he : (handsV deck n).2 ≠ 0) (w : World) :
    Calls Try.prog 7 #[.int .u64 h, .int .i64 deck, .int .i64 n] w fun e w' => e = .returned (.bool true) ∧ Below w.heap.size w w' := by
  have c := Aside0.mk (deal_no h deck n he)
  generalize (handsV deck n).2 = b at c he
  have t : (b != 0) = true := bne_iff_ne.mpr he
  have t2 : (b == 0) = false := beq_eq_false_iff_ne.mpr he
  clear he
  go_enter Try.func7, Try.ntmps7
  go_wp2_with fail
  refine (awake_any _).mono ?_
  rintro e w0 ⟨rfl, hB0⟩
  have HB0 := Aside0.mk hB0
  clear hB0
  go_wp2_with fail
  refine (c.out _).mono ?_
  rintro e w1 ⟨rfl, hd⟩
  have HB := Aside0.mk (below_step HB0.out hd.below)
  clear hd
  go_wp2_with fail
  go_ret
  exact ⟨rfl, HB.out⟩

theorem law (h deck n : Int) (w : World) (hh : (Lit.int .u64 h).wf = true) :
    Calls Try.prog 7 #[.int .u64 h, .int .i64 deck, .int .i64 n] w fun e w' => e = .returned (.bool true) ∧ Below w.heap.size w w' := by
  by_cases he : (handsV deck n).2 = 0
  · have hh' : 0 ≤ h ∧ h < 18446744073709551616 := by
      simp [Lit.wf, IntKind.min, IntKind.max, IntKind.signed, IntKind.bits] at hh
      omega
    obtain ⟨k, rfl⟩ := Int.eq_ofNat_of_zero_le hh'.1
    have hk : k < 18446744073709551616 := by omega
    have c1 := deal_ok k deck n hk he
    have c2 := fun (h1 : (1 : Int) < n) (he' : (handsV deck (n - 1)).2 = 0) => deal_ok k deck (n - 1) hk he'
    obtain ⟨d, m, rfl, rfl, d1, d64, m1, m8, md, _, _⟩ := handsV_ok he
    rw [Int.toNat_natCast, Int.toNat_natCast] at c1
    refine walk k d m (dealL k (deckL d) m) w m1 m8 (hand_deal k d m md) ⟨c1⟩ ⟨fun h1 => ?_⟩
    have c3 := c2 (by omega) (handsV_less h1 he)
    obtain ⟨j, rfl⟩ : ∃ j, m = j + 1 := ⟨m - 1, by omega⟩
    rw [Int.toNat_natCast, show (((j + 1 : Nat) : Int) - 1).toNat = j by omega] at c3
    rw [show j + 1 - 1 = j by omega, dealL_take]
    exact c3
  · exact walk_no h deck n he w
end Go.Proofs.Ytnbnaflhijfamaa.WalkDealApart
