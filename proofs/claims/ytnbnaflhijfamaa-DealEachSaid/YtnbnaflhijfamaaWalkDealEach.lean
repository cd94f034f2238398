/- The walk of the law DealEach: it returns true for every deck and length of a hand; below its own memory the world stays as it was. -/
import Derived.Test.YtnbnaflhijfamaaEachMath
namespace Go.Proofs.Ytnbnaflhijfamaa.WalkDealEach
open Go.RowKit Go.Proofs.YtnbnaflhijfamaaW.PrintWords Go.Proofs.YtnbnaflhijfamaaW.PrintMore Go.Proofs.Ytnbnaflhijfamaa.DealMem Go.Proofs.Ytnbnaflhijfamaa.DealMath Go.Proofs.Ytnbnaflhijfamaa.DealWalk Go.Proofs.Ytnbnaflhijfamaa.HandsIs Go.Proofs.Ytnbnaflhijfamaa.PDealAll Go.Proofs.Ytnbnaflhijfamaa.DealLaws Go.Proofs.Ytnbnaflhijfamaa.EachMath

theorem info39 : (Try.prog.info? 39).map (fun i => (i.zero, i.size, i.bytes)) = some (some (.int .u64 0), 1, 8) := by kernel_rfl
/-- The codes so far. -/
def codes (C : Nat → Int) (i : Nat) : List Value := (List.range i).map fun j => .int .u64 (C j)
theorem codes_length (C : Nat → Int) (i : Nat) : (codes C i).length = i := by simp [codes]
theorem codes_succ (C : Nat → Int) (i : Nat) : codes C (i + 1) = codes C i ++ [.int .u64 (C i)] := by simp [codes, List.range_succ]
theorem codes_at (C : Nat → Int) (i j : Nat) (h : j < i) : (codes C i)[j]? = some (.int .u64 (C j)) := by simp [codes, h]

theorem own_read {w : World} {b c n : Nat} {A : Option Addr} {xs : List Value} (h : w.ownsRow b 39 1 (.slice A n c) n xs) (hn : 0 < n) : ∃ g, A = some ⟨g, 0, none⟩ ∧ ∀ j u, xs[j]? = some u → w.cell? ⟨g, j, none⟩ = some u := by
  rcases h.2 with ⟨h1, h2⟩ | ⟨g, cap, cur, h1, _⟩
  · have := h.1
    rw [h2] at this
    simp at this; omega
  · simp only [Value.slice.injEq] at h1
    obtain ⟨rfl, _, rfl⟩ := h1
    refine ⟨g, rfl, fun j u hj => ?_⟩
    have := h.cells (g := g) rfl j u hj
    rwa [add_plain] at this

theorem small (deck n : Int) (w : World) (h : (handsV deck n).2 ≠ 0 ∨ 400 < (handsV deck n).1) :
    Calls Try.prog 8 #[.int .i64 deck, .int .i64 n] w fun e w' => e = .returned (.bool true) ∧ Below w.heap.size w w' := by
  have c := Aside0.mk (hands_any deck n)
  generalize (handsV deck n).1 = a at c h
  generalize (handsV deck n).2 = b at c h
  have t : (b != 0) = true ∨ ((b != 0) = false ∧ decide (400 < a) = true) := by
    by_cases hb : b = 0
    · subst hb
      exact .inr ⟨rfl, decide_eq_true (by rcases h with h | h; exact absurd rfl h; exact h)⟩
    · exact .inl (bne_iff_ne.mpr hb)
  clear h
  rcases t with t | ⟨t, t2⟩
  all_goals
    go_enter Try.func8, Try.ntmps8
    go_wp2_with fail
    refine (awake_any _).mono ?_
    rintro e w0 ⟨rfl, hB0⟩
    have HB0 := Aside0.mk hB0
    clear hB0
    go_wp2_with fail
    refine (c.out _).mono ?_
    rintro e w1 ⟨rfl, ⟨q, rfl⟩⟩
    have HB := Aside0.mk (pw_below_drewN HB0.out q)
    go_wp2_with fail
    go_ret
    exact ⟨rfl, HB.out⟩

set_option maxHeartbeats 4000000 in
theorem walk (deck : Int) (n all : Nat) (D : Nat → List Int) (C : Nat → Int) (w : World) (n8 : n ≤ 8) (a4 : all ≤ 400)
    (hC : Aside0 (C = fun j => codeP (D j) n))
    (hands : Aside0 (∀ w, Calls Try.prog 20 #[.int .i64 deck, .int .i64 (n : Int)] w fun e w' => e = .returned (.tuple #[.int .u64 (all : Int), .int .i64 0]) ∧ Drawn0 w w'))
    (deals : Aside0 (∀ j, j < all → ∀ w, Calls Try.prog 18 #[.int .u64 (j : Int), .int .i64 deck, .int .i64 (n : Int)] w (Dealt w (D j))))
    (hlen : Aside0 (∀ j, (D j).length = n))
    (hrange : Aside0 (∀ j i, 0 ≤ (D j).getD i 0 ∧ (D j).getD i 0 < 64))
    (hne : Aside0 (∀ j k, j < all → k < all → j ≠ k → (C j == C k) = false)) :
    Calls Try.prog 8 #[.int .i64 deck, .int .i64 (n : Int)] w fun e w' => e = .returned (.bool true) ∧ Below w.heap.size w w' := by
  have t2 : decide ((400 : Int) < (all : Int)) = false := decide_eq_false (by omega)
  obtain ⟨i0, hi, hz0, hz1, hz2⟩ := info_parts info39
  go_enter Try.func8, Try.ntmps8
  go_wp2_with fail
  refine (awake_any _).mono ?_
  rintro e w0 ⟨rfl, hB0⟩
  have HB0 := Aside0.mk hB0
  clear hB0
  go_wp2_with fail
  refine (hands.out _).mono ?_
  rintro e w1 ⟨rfl, ⟨q, rfl⟩⟩
  have HB := Aside0.mk (pw_below_drewN HB0.out q)
  clear HB0 hands
  go_wp2_with fail
  go_loopw [7, 8] (fun s7 s8 wr => ∃ i : Nat, i ≤ all ∧ s8 = .int .u64 i ∧ wr.ownsRow w.heap.size 39 1 s7 i (codes C i) ∧ Below w.heap.size w wr) (fun _ s _ => all - (intOf s).toNat)
  case atStart => exact ⟨0, by omega, rfl, World.ownsRow_nil _ _ _ _, HB.out⟩
  case round =>
    clear HB
    obtain ⟨i, hi2, rfl, hown, hB⟩ := hrel
    obtain ⟨A, cap, rfl⟩ := own_slice hown
    have HO := Aside0.mk hown
    have HB := Aside0.mk hB
    clear hown hB
    by_cases hia : i < all
    · have hl : decide ((i : Int) < (all : Int)) = true := decide_eq_true (by omega)
      have d1 := Aside0.mk (deals.out i hia)
      go_wp2_with fail
      refine (d1.out _).mono ?_
      rintro e w2 ⟨g, rfl, hg, hb, hB2⟩
      have HO2 := Aside0.mk (pw_own_below HO.out hB2)
      have HB2 := Aside0.mk (below_step HB.out hB2)
      have Hb := Aside0.mk hb
      clear HO HB hb hB2 hg d1
      rw [hlen.out i]
      go_wp2_with fail
      have hR := Aside0.mk (fun k => hrange.out i k)
      have hS := Aside0.mk (fun k (hk : k ≤ n) => codeP_small (D i) (fun j => hrange.out i j) (show k ≤ 8 by omega))
      have hn := Aside0.mk (hlen.out i)
      go_loop [11, 12] (fun s11 s12 => ∃ k : Nat, k ≤ n ∧ s12 = .int .i64 k ∧ s11 = .int .u64 (codeP (D i) k)) (fun _ s => n - (intOf s).toNat)
      case atStart => exact ⟨0, by omega, rfl, rfl⟩
      case round =>
        obtain ⟨k, hk, rfl, rfl⟩ := hrel
        have hc := hS.out k hk
        by_cases hkn : k < n
        · have hl2 : decide ((k : Int) < (n : Int)) = true := decide_eq_true (by omega)
          have hx := hR.out k
          have hs := hS.out (k + 1) hkn
          have ck := blkL_cell Hb.out k (by rw [hn.out]; exact hkn)
          have hcs : codeP (D i) (k + 1) = codeP (D i) k * 64 + (D i).getD k 0 := rfl
          obtain ⟨z, hz⟩ : ∃ z, z = codeP (D i) (k + 1) := ⟨_, rfl⟩
          rw [← hz] at hs hcs
          have Hz := Aside0.mk hz
          clear hz
          generalize codeP (D i) k = c at hc hcs ⊢
          generalize (D i).getD k 0 = x at hx ck hcs
          have e1 : IntKind.u64.wrap (c * 64) = c * 64 := by rw [Go.IntKind.wrap_u64]; omega
          have e2 : IntKind.u64.wrap x = x := by rw [Go.IntKind.wrap_u64]; omega
          have e3 : IntKind.u64.wrap (c * 64 + x) = z := by rw [Go.IntKind.wrap_u64]; omega
          have Hs := Aside0.mk (show (k : Int) + 1 = ((k + 1 : Nat) : Int) by omega)
          have km : n - (k + 1) < n - k := by omega
          clear hc hcs hs
          go_wp2_with fail
          clear e1 e2 e3
          go_round
          case rel => exact ⟨k + 1, hkn, by rw [← Hs.out], by rw [Hz.out]⟩
          case measure => simp [intOf]; omega
        · obtain rfl : n = k := by omega
          have hl2 : decide ((n : Int) < (n : Int)) = false := decide_eq_false (by omega)
          have HC : Aside0 (codeP (D i) n = C i) := ⟨by rw [hC.out]⟩
          rw [HC.out] at hc ⊢
          go_wp2_with fail
          have Hy := Aside0.mk (fun j (hj : j < i) => hne.out j i (by omega) hia (by omega))
          have Hcodes := Aside0.mk (codes_succ C i)
          generalize hy : C i = y at hc Hy Hcodes ⊢
          clear hy hS hR HC hl2
          go_loop [13] (fun s => ∃ k : Nat, k ≤ i ∧ s = .int .i64 k) (fun s => i - (intOf s).toNat)
          case atStart => exact ⟨0, by omega, rfl⟩
          case round =>
            obtain ⟨k, hk, rfl⟩ := hrel
            by_cases hki : k < i
            · have hl3 : decide ((k : Int) < (i : Int)) = true := decide_eq_true (by omega)
              obtain ⟨g7, rfl, hcells⟩ := own_read HO2.out (by omega)
              have ck := hcells k _ (codes_at C i k hki)
              have t3 := Hy.out k hki
              clear hcells
              generalize C k = x at ck t3
              go_wp2_with fail
              go_round
              case rel => exact ⟨k + 1, by omega, by go_num⟩
              case measure => simp [intOf]; omega
            · obtain rfl : i = k := by omega
              have hl3 : decide ((i : Int) < (i : Int)) = false := decide_eq_false (by omega)
              have hsz := HB2.out.size
              go_wp2_with (at_builtin; refine wpList_append_own _ rfl _ _ 52 rfl w.heap.size 39 i0 (.int .u64 0) 1 8 Try.underlying52 hi hz0 hz1 hz2 rfl (by decide) _ _ _ rfl (HO2.out.alloc _) ⟨w2.heap.size, 0, none⟩ 1 1 [.int .u64 y] rfl rfl (cell_one_new _ _ _) ?c2 ?c3 ?c4 ?c5 ?_)
              case c2 => first | rfl | (intro u hu; simp at hu; subst hu; rfl)
              case c3 => unfold maxLen; omega
              case c4 => omega
              case c5 => first | omega | (simp; omega)
              · intro v' w3 hown' hgrow _
                have HO3 : Aside0 (w3.ownsRow w.heap.size 39 1 v' (i + 1) (codes C (i + 1))) := ⟨by rw [Hcodes.out]; exact hown'⟩
                have HB3 : Aside0 (Below w.heap.size w w3) := ⟨(below_alloc HB2.out _).grown hgrow (by simp; omega) (fun k hk => own_base HO2.out k hk)⟩
                clear hown' hgrow
                go_wp2_with fail
                go_roundw
                case rel => exact ⟨i + 1, by omega, by go_num, HO3.out, HB3.out⟩
                case measure => simp [intOf]; omega
    · have hl : decide ((i : Int) < (all : Int)) = false := decide_eq_false (by omega)
      go_wp2_with fail
      go_ret
      exact ⟨rfl, HB.out⟩

theorem law (deck n : Int) (w : World) :
    Calls Try.prog 8 #[.int .i64 deck, .int .i64 n] w fun e w' => e = .returned (.bool true) ∧ Below w.heap.size w w' := by
  by_cases he : (handsV deck n).2 = 0
  · by_cases ha : 400 < (handsV deck n).1
    · exact small deck n w (.inr ha)
    · have hands := hands_any deck n
      have deals := fun (j : Nat) (hj : j < 18446744073709551616) => deal_ok j deck n hj he
      obtain ⟨d, m, rfl, rfl, d1, d64, m1, m8, md, _, hp⟩ := handsV_ok he
      rw [he, hp] at hands
      rw [hp] at ha
      have ha' : prodN d m ≤ 400 := by omega
      rw [Int.toNat_natCast, Int.toNat_natCast] at deals
      exact walk (d : Int) m (prodN d m) (fun j => dealL j (deckL d) m) (fun j => codeP (dealL j (deckL d) m) m) w m8 ha' ⟨rfl⟩ ⟨hands⟩
        ⟨fun j hj => deals j (by omega)⟩ ⟨fun j => dealL_length m j (deckL d)⟩ ⟨fun j i => deal_card md d64 i⟩
        ⟨fun j k hj hk hjk => beq_eq_false_iff_ne.mpr (code_ne md d64 hj hk hjk)⟩
  · exact small deck n w (.inl he)
end Go.Proofs.Ytnbnaflhijfamaa.WalkDealEach
