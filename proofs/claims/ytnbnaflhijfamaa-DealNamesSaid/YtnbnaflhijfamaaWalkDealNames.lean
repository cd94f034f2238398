/- The walk of the law DealNames: it returns true for every row of cards and every deck; below its own memory the world stays as it was. -/
import Derived.Test.YtnbnaflhijfamaaWalkDealAll
namespace Go.Proofs.Ytnbnaflhijfamaa.WalkDealNames
open Go.RowKit Go.Proofs.YtnbnaflhijfamaaW.PrintWords Go.Proofs.YtnbnaflhijfamaaW.PrintMore Go.Proofs.Ytnbnaflhijfamaa.DealMem Go.Proofs.Ytnbnaflhijfamaa.DealMath Go.Proofs.Ytnbnaflhijfamaa.DealWalk Go.Proofs.Ytnbnaflhijfamaa.HandsIs Go.Proofs.Ytnbnaflhijfamaa.DealLaws Go.Proofs.Ytnbnaflhijfamaa.WhichIs Go.Proofs.Ytnbnaflhijfamaa.RefIs Go.Proofs.Ytnbnaflhijfamaa.OwnWhich

set_option maxHeartbeats 1000000 in
theorem copy_any (A : Option Addr) (c : Nat) (L : List Int) (w : World) (hl : L.length ≤ 64) (hr : Kd.C (Kd.int .i64) w A L.length L) :
    Calls Try.prog 23 #[.slice A L.length c] w fun e w' => ∃ v, e = .returned v ∧ w'.ownsRow w.heap.size 3 1 v L.length (L.map (Value.int .i64)) ∧ Below w.heap.size w w' := by
  have HR := Aside0.mk hr
  clear hr
  have HO := Aside0.mk (own_lit w w.heap.size 3 .i64 [] (Nat.le_refl _) (by decide))
  have HB := Aside0.mk (below_alloc (Below.refl w.heap.size w) (.cells #[] 3))
  have HR2 := Aside0.mk (Kd.reads_of_C (d := 0) (Kd.C_alloc HR.out (.cells #[] 3)))
  go_enter Try.func23, Try.ntmps23
  go_wp2_with (at_builtin; refine print_append_row_of (w0 := w) (d := 0) (Value.int .i64) w.heap.size rfl _ _ 40 3 (.int .i64 0) 8 rfl Try.underlying40 DealWalk.info3 rfl (by decide) (fun _ => rfl) _ [] L _ _ _ rfl rfl HO.out HR2.out HB.out ?h1 ?h2 ?_)
  case h1 => simp
  case h2 => simp; omega
  · intro v1 w1 hown hB1 _ _
    have HO1 := Aside0.mk hown
    have HB1 := Aside0.mk hB1
    clear hown hB1
    go_wp2_with fail
    go_ret
    exact ⟨_, rfl, HO1.out, HB1.out⟩

theorem C_of_cells {w : World} {g : Nat} {L : List Int} (h : ∀ j, j < L.length → w.cell? ⟨g, j, none⟩ = some (.int .i64 (L.getD j 0))) (hl : L.length ≤ 9223372036854775807) : Kd.C (Kd.int .i64) w (some ⟨g, 0, none⟩) L.length L := by
  refine ⟨rfl, hl, fun _ => ⟨_, rfl, fun j p hp => ?_⟩⟩
  have hj : j < L.length := by
    rcases Nat.lt_or_ge j L.length with h' | h'
    · exact h'
    · rw [List.getElem?_eq_none h'] at hp; cases hp
  refine ⟨[.int .i64 p], rfl, rfl, fun i u hi => ?_⟩
  cases i with
  | zero =>
    simp at hi; subst hi
    have := h j hj
    rw [List.getD_eq_getElem?_getD, hp] at this
    rw [add_plain]
    simpa [Kd.int, Kd.scalar] using this
  | succ i => simp at hi
/-- The row with the seven behind it. -/
theorem own_seven {w : World} {b : Nat} {v : Value} {L : List Int} (h : w.ownsRow b 3 1 v (L.length + 1) (L.map (Value.int .i64) ++ [.int .i64 7])) : ∃ g c, v = .slice (some ⟨g, 0, none⟩) (L.length + 1) c ∧ L.length + 1 ≤ c ∧ (∀ j, j < L.length → w.cell? ⟨g, j, none⟩ = some (.int .i64 (L.getD j 0))) ∧ w.cell? ⟨g, L.length, none⟩ = some (.int .i64 7) := by
  rcases h.2 with ⟨h1, h2⟩ | ⟨g, cap, cur, h1, _, _, h4, _⟩
  · omega
  · subst h1
    have hc : ∀ j u, (L.map (Value.int .i64) ++ [.int .i64 7])[j]? = some u → w.cell? ⟨g, j, none⟩ = some u := by
      intro j u hj
      have := h.cells (g := g) rfl j u hj
      rwa [add_plain] at this
    refine ⟨g, cap, rfl, h4, fun j hj => hc j _ ?_, hc _ _ (by simp)⟩
    rw [List.getElem?_append_left (by simpa using hj)]
    simp [List.getElem?_eq_getElem hj, List.getD_eq_getElem?_getD]

set_option maxHeartbeats 400000 in
theorem long (A : Option Addr) (n c : Nat) (deck : Int) (w : World) (h : 64 < n) :
    Calls Try.prog 9 #[.slice A n c, .int .i64 deck] w fun e w' => e = .returned (.bool true) ∧ Below w.heap.size w w' := by
  have t : decide ((64 : Int) < (n : Int)) = true := decide_eq_true (by omega)
  go_enter Try.func9, Try.ntmps9
  go_wp2_with fail
  refine (awake_any _).mono ?_
  rintro e w0 ⟨rfl, hB0⟩
  have HB0 := Aside0.mk hB0
  clear hB0
  go_wp2_with fail
  go_ret
  exact ⟨rfl, HB0.out⟩

set_option maxHeartbeats 4000000 in
theorem walk (A : Option Addr) (n c : Nat) (deck a b : Int) (L : List Int) (w : World) (h : n ≤ 64) (hL : Aside0 (L.length = n)) (hr : Aside0 (Kd.C (Kd.int .i64) w A n L)) (hc : n ≤ c)
    (c1 : Aside0 (∀ A c w, Kd.C (Kd.int .i64) w A n L → n ≤ c → Calls Try.prog 24 #[.slice A n c, .int .i64 deck] w fun e w' => e = .returned (.tuple #[.int .u64 a, .int .i64 b]) ∧ Drawn0 w w'))
    (c2 : Aside0 (∀ A c w, Kd.C (Kd.int .i64) w A n L → Calls Try.prog 25 #[.slice A n c, .int .i64 deck] w fun e w' => e = .returned (.tuple #[.int .u64 a, .int .i64 b]) ∧ Below w.heap.size w w'))
    (c3 : Aside0 (∀ A c w, Kd.C (Kd.int .i64) w A n L → Calls Try.prog 23 #[.slice A n c] w fun e w' => ∃ v, e = .returned v ∧ w'.ownsRow w.heap.size 3 1 v n (L.map (Value.int .i64)) ∧ Below w.heap.size w w'))
    (c4 : Aside0 (∀ A0 A1 c0 c1 w, Kd.C (Kd.int .i64) w A0 n L → n ≤ c0 → Kd.C (Kd.int .i64) w A1 n L → n ≤ c1 → Calls Try.prog 22 #[.slice A0 n c0, .slice A1 n c1] w fun e w' => e = .returned (.bool true) ∧ Drawn0 w w')) :
    Calls Try.prog 9 #[.slice A n c, .int .i64 deck] w fun e w' => e = .returned (.bool true) ∧ Below w.heap.size w w' := by
  have t : decide ((64 : Int) < (n : Int)) = false := decide_eq_false (by omega)
  obtain ⟨i0, hi0, hz0, hz1, hz2⟩ := info_parts DealWalk.info3
  go_enter Try.func9, Try.ntmps9
  go_wp2_with fail
  refine (awake_any _).mono ?_
  rintro e w0 ⟨rfl, hB0⟩
  have HB0 := Aside0.mk hB0
  clear hB0
  go_wp2_with fail
  refine (c3.out A c _ (Kd.C_below hr.out HB0.out)).mono ?_
  rintro e w1 ⟨v, rfl, hown, hB⟩
  have HO1 := Aside0.mk hown
  have HB1 := Aside0.mk (below_step HB0.out hB)
  have hs1 := hB.size
  have hs0 := HB0.out.size
  clear hown hB HB0 c3
  go_wp2_with (at_builtin; refine wpList_append_own _ rfl _ _ 40 rfl w0.heap.size 3 i0 (.int .i64 0) 1 8 Try.underlying40 hi0 hz0 hz1 hz2 rfl (by decide) _ _ _ rfl (HO1.out.alloc _) _ 1 1 [.int .i64 7] rfl rfl (cell_one_new _ _ _) ?c2 ?c3 ?c4 ?c5 ?_)
  case c2 => first | rfl | (intro u hu; simp at hu; subst hu; rfl)
  case c3 => unfold maxLen; omega
  case c4 => omega
  case c5 => first | omega | (simp; omega)
  · intro v' w3 hown' hgrow _
    rw [← hL.out] at hown'
    obtain ⟨g, c', rfl, hc', hcell, h7⟩ := own_seven hown'
    rw [hL.out] at hc' h7 hcell ⊢
    have HB3 : Aside0 (Below w.heap.size w w3) := ⟨(below_alloc HB1.out _).grown hgrow (by simp; omega) (fun k hk => Nat.le_trans hs0 (own_base HO1.out k hk))⟩
    have HC := Aside0.mk (C_of_cells (L := L) (w := w3) (g := g) (by rw [hL.out]; exact hcell) (by rw [hL.out]; omega))
    rw [hL.out] at HC
    have Hcell := Aside0.mk (show ∀ W, Below w3.heap.size w3 W → W.cell? ⟨g, n, none⟩ = some (.int .i64 7) from fun W hW => pw_cell_below hW h7)
    have hcc : (n : Int) ≤ (c' : Int) := by omega
    have hcc2 : n ≤ c' := by omega
    clear hown' hgrow hcell h7 HO1 HB1 hs1 hs0
    go_wp2_with fail
    refine (c1.out _ _ _ HC.out (by omega)).mono ?_
    rintro e w4 ⟨rfl, ⟨q, rfl⟩⟩
    go_wp2_with fail
    refine (c2.out A c _ (Kd.C_below hr.out (pw_below_drewN HB3.out q))).mono ?_
    rintro e w5 ⟨rfl, hB5⟩
    have HB35 := Aside0.mk (show Below w3.heap.size w3 w5 from below_step (pw_below_drewN (Below.refl _ _) q) hB5)
    have HB5 := Aside0.mk (below_step (pw_below_drewN HB3.out q) hB5)
    clear hB5 c1 c2
    have h7 := Hcell.out w5 HB35.out
    go_wp2_with fail
    refine (c4.out _ _ _ _ w5 (Kd.C_below HC.out HB35.out) (by omega) (Kd.C_below hr.out HB5.out) hc).mono ?_
    rintro e w6 ⟨rfl, ⟨q2, rfl⟩⟩
    go_wp2_with fail
    go_ret
    exact ⟨rfl, pw_below_drewN HB5.out q2⟩

theorem law (A : Option Addr) (c : Nat) (L : List Int) (deck : Int) (w : World) (hr : Kd.C (Kd.int .i64) w A L.length L) (hc : L.length ≤ c) :
    Calls Try.prog 9 #[.slice A L.length c, .int .i64 deck] w fun e w' => e = .returned (.bool true) ∧ Below w.heap.size w w' := by
  by_cases h : 64 < L.length
  · exact long A L.length c deck w h
  · exact walk A L.length c deck (whichV L deck).1 (whichV L deck).2 L w (by omega) ⟨rfl⟩ ⟨hr⟩ hc
      ⟨fun A c w h1 h2 => which_any A c L deck w h1 h2⟩ ⟨fun A c w h1 => ref_which_any A c L deck w h1⟩
      ⟨fun A c w h1 => copy_any A c L w (by omega) h1⟩ ⟨fun A0 A1 c0 c1 w h1 h2 h3 h4 => same_any A0 A1 c0 c1 L (by omega) w h1 h2 h3 h4⟩
end Go.Proofs.Ytnbnaflhijfamaa.WalkDealNames
