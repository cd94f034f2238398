/- The 64 marks of the reference in memory; each lemma names its own conditions. -/
import Derived.Test.YtnbnaflhijfamaaGoneMath
import Derived.Test.YtnbnaflhijfamaaWhichIs
namespace Go.Proofs.Ytnbnaflhijfamaa.GoneMem
open Go.RowKit Go.Proofs.YtnbnaflhijfamaaW.PrintWords Go.Proofs.YtnbnaflhijfamaaW.PrintMore Go.Proofs.Ytnbnaflhijfamaa.DealMath Go.Proofs.Ytnbnaflhijfamaa.GoneMath

/-- Block g holds the marks of the cards that are gone. -/
def blkB (w : World) (g : Nat) (S : List Int) : Prop := w.heap[g]? = some (.cells ((goneL S).map Value.bool).toArray 66 (0, 0))
theorem zeros64 : ((List.replicate 64 false).map Value.bool) = List.replicate 64 (Value.bool false) := by simp
theorem blkB_new {w : World} {o : Array Value} (h : o = ((goneL []).map Value.bool).toArray) : blkB (w.alloc (.cells o 66)) w.heap.size [] := by
  subst h
  exact blk_new w _
theorem blkB_cell {w : World} {g : Nat} {S : List Int} (h : blkB w g S) {c : Nat} (hc : c < 64) : w.cell? ⟨g, c, none⟩ = some (.bool (decide ((c : Int) ∈ S))) := by
  rw [blk_cell h c, ← goneL_at S hc]
  simp [List.getElem?_eq_getElem (show c < (goneL S).length by rw [goneL_length]; exact hc), List.getD_eq_getElem?_getD]
theorem blkB_frozen {w : World} {g : Nat} {S : List Int} (h : blkB w g S) (c : Nat) : w.frozen? ⟨g, c, none⟩ = false := blk_frozen h c
theorem blkB_set {w : World} {g : Nat} {S : List Int} (h : blkB w g S) {c : Nat} (hc : c < 64) : blkB (w.setCell ⟨g, c, none⟩ (.bool true)) g (S ++ [(c : Int)]) := by
  have := blk_set h c (.bool true)
  unfold blkB
  rw [this, ← goneL_set S hc]
  congr 2
  simp [List.map_set]
theorem blkB_drewN {w : World} {g : Nat} {S : List Int} (h : blkB w g S) (q : Nat) : blkB (w.drewN q) g S := h

theorem cell_set_new (w : World) (a : Addr) (u v : Value) : ∀ i u', [v][i]? = some u' → ((w.setCell a u).alloc (.cells #[v] 3)).cell? (Addr.add ⟨w.heap.size, 0, none⟩ i) = some u' := by
  have := cell_one_new (w.setCell a u) v 3
  simpa using this

set_option maxHeartbeats 4000000 in
theorem ref_deal (h d n : Nat) (P : Int) (hh : h < 18446744073709551616) (d64 : d ≤ 64) (n1 : 1 ≤ n) (n8 : n ≤ 8) (nd : n ≤ d) (w : World)
    (hands : Aside0 (∀ w, Calls Try.prog 21 #[.int .i64 d, .int .i64 n] w fun e w' => e = .returned (.tuple #[.int .u64 P, .int .i64 0]) ∧ Drawn0 w w')) :
    Calls Try.prog 19 #[.int .u64 h, .int .i64 d, .int .i64 n] w fun e w' => ∃ v, e = .returned (.tuple #[v, .int .i64 0]) ∧ w'.ownsRow (w.heap.size + 1) 3 1 v n ((dealL h (deckL d) n).map (Value.int .i64)) ∧ Below w.heap.size w w' := by
  obtain ⟨i0, hi0, hz0, hz1, hz2⟩ := info_parts Go.Proofs.Ytnbnaflhijfamaa.OwnWhich.info3
  go_enter Try.func19, Try.ntmps19
  go_wp2_with (go_at_call 21; (with_reducible refine (hands.out _).mono ?_); rintro e w' ⟨rfl, ⟨nw, rfl⟩⟩)
  clear hands
  obtain ⟨o, ho⟩ : ∃ o : Array Value, o = ((goneL []).map Value.bool).toArray := ⟨_, rfl⟩
  have hb0 := Aside0.mk (blkB_new (w := w.drewN nw) ho)
  have HB0 := Aside0.mk (below_alloc (pw_below_drewN (Below.refl w.heap.size w) nw) (.cells o 66))
  rw [goneL_nil, zeros64] at ho
  simp only [List.replicate] at ho
  subst ho
  go_loopw [0, 11, 12] (fun s0 s11 s12 wr => ∃ i r : Nat, i ≤ n ∧ Aside0 (r = restN h (deckL d) i) ∧ s0 = .int .u64 r ∧ s12 = .int .i64 i ∧ blkB wr w.heap.size (dealL h (deckL d) i) ∧ wr.ownsRow (w.heap.size + 1) 3 1 s11 i ((dealL h (deckL d) i).map (Value.int .i64)) ∧ Below w.heap.size w wr) (fun _ _ s _ => n - (intOf s).toNat)
  case atStart => exact ⟨0, h, by omega, ⟨rfl⟩, rfl, rfl, hb0.out, World.ownsRow_nil _ _ _ _, HB0.out⟩
  case round =>
    clear hb0 HB0
    obtain ⟨i, r, hi, hr, rfl, rfl, hb, hown, hB⟩ := hrel
    obtain ⟨A, cap, rfl⟩ := own_slice hown
    have Hb := Aside0.mk hb
    have HO := Aside0.mk hown
    have HB := Aside0.mk hB
    clear hb hown hB
    by_cases hin : i < n
    · have hl : decide ((i : Int) < (n : Int)) = true := decide_eq_true (by omega)
      obtain ⟨x, xd, hnext, hnot, hcnt⟩ := next_card (h := h) (d := d) (i := i) (by omega)
      have hsz := HB.out.size
      rw [← hr.out] at hcnt
      obtain ⟨m, hm⟩ : ∃ m, m = d - i := ⟨_, rfl⟩
      rw [← hm] at hcnt
      have m1 : 1 ≤ m := by omega
      have m64 : m ≤ 64 := by omega
      have r64 : r < 18446744073709551616 := by have := hr.out; have := restN_le i h (deckL d); omega
      have a1 : wrap64 ((d : Int) - (i : Int)) = (m : Int) := by unfold wrap64; omega
      have a1' : (d : Int) - (i : Int) = (m : Int) := by omega
      have a2 : IntKind.u64.wrap (m : Int) = (m : Int) := by rw [Go.IntKind.wrap_u64]; omega
      obtain ⟨p, hp⟩ : ∃ p, p = r / m := ⟨_, rfl⟩
      obtain ⟨q, hq⟩ : ∃ q, q = r % m := ⟨_, rfl⟩
      have q64 : q < 64 := by have := Nat.mod_lt r (show 0 < m by omega); omega
      have E1 : Aside0 ((r : Int) % (m : Int) = (q : Int)) := ⟨by rw [hq]; exact (Int.natCast_emod _ _).symm⟩
      have E2 : Aside0 ((r : Int) / (m : Int) = (p : Int)) := ⟨by rw [hp]; exact (Int.natCast_ediv _ _).symm⟩
      have Hp : Aside0 (p = restN h (deckL d) (i + 1)) := ⟨by
        rw [restN_succ, leftL_length _ _ _ (by rw [deckL_length]; omega), deckL_length, ← hr.out, ← hm]; exact hp⟩
      have p64 : p < 18446744073709551616 := by have := Nat.div_le_self r m; omega
      have Hcnt : Aside0 (cntS (dealL h (deckL d) i) x = q) := ⟨by rw [hcnt, hq]⟩
      have Hm := Aside0.mk hm
      have mz : (m : Int) ≠ 0 := by omega
      have mz2 : ((m : Int) == 0) = false := beq_eq_false_iff_ne.mpr mz
      clear hcnt hq hp hm
      have HN := Aside0.mk hnext
      have Hnot := Aside0.mk hnot
      clear hnext hnot
      generalize hS : dealL h (deckL d) i = S at *
      clear hS
      generalize hS' : dealL h (deckL d) (i + 1) = S' at *
      have HS' : Aside0 (dealL h (deckL d) (i + 1) = S') := ⟨hS'⟩
      clear hS'
      have e1 := E1.out
      have e2 := E2.out
      go_wp2_with fail
      clear e1 e2 a1 a1' a2
      rw [E1.out]
      go_loopw [11, 13, 14] (fun s11 s13 s14 w2 => ∃ c : Nat, c ≤ x ∧ cntS S c ≤ q ∧ s11 = .slice A i cap ∧ s14 = .int .i64 c ∧ s13 = .int .u64 ((q : Int) - (cntS S c : Int)) ∧ blkB w2 w.heap.size S ∧ w2.ownsRow (w.heap.size + 1) 3 1 (.slice A i cap) i (S.map (Value.int .i64)) ∧ Below w.heap.size w w2) (fun _ _ s _ => d - (intOf s).toNat)
      case atStart => exact ⟨0, by omega, by simp [cntS], rfl, rfl, by simp [cntS], Hb.out, HO.out, HB.out⟩
      case round =>
        clear Hb HO HB
        obtain ⟨c, hc, hcq, rfl, rfl, rfl, hb, hown, hB⟩ := hrel
        have Hb := Aside0.mk hb
        have HO := Aside0.mk hown
        have HB := Aside0.mk hB
        have hsz2 := hB.size
        clear hb hown hB
        have hl2 : decide ((c : Int) < (d : Int)) = true := decide_eq_true (by omega)
        have cc := blkB_cell Hb.out (show c < 64 by omega)
        have fc := blkB_frozen Hb.out c
        have c64 : (c : Int) < 64 := by omega
        by_cases hcx : c = x
        · subst hcx
          have g0 : decide ((c : Int) ∈ S) = false := decide_eq_false Hnot.out
          rw [g0] at cc
          rw [Hcnt.out, Int.sub_self]
          clear g0
          go_wp2_with (at_builtin; refine wpList_append_own _ rfl _ _ 40 rfl (w.heap.size + 1) 3 i0 (.int .i64 0) 1 8 Try.underlying40 hi0 hz0 hz1 hz2 rfl (by decide) _ _ _ rfl ((ownsRow_setCell_below HO.out (a := ⟨w.heap.size, c, none⟩) (Nat.lt_succ_self _) (.bool true)).alloc _) _ 1 1 [.int .i64 c] rfl rfl (cell_set_new _ _ _ _) ?c2 ?c3 ?c4 ?c5 ?_)
          case c2 => first | rfl | (intro u hu; simp at hu; subst hu; rfl)
          case c3 => unfold maxLen; omega
          case c4 => omega
          case c5 => first | omega | (simp; omega)
          · intro v' w3 hown' hgrow _
            have HO3 : Aside0 (w3.ownsRow (w.heap.size + 1) 3 1 v' (i + 1) (S'.map (Value.int .i64))) := ⟨by rw [HN.out, List.map_append]; exact hown'⟩
            have Hb3 : Aside0 (blkB w3 w.heap.size S') := ⟨by
              rw [HN.out]
              refine blk_grown (blk_alloc (blkB_set Hb.out (show c < 64 by omega)) _) hgrow (fun e => ?_)
              have := own_base HO.out _ e.symm
              omega⟩
            have HB3 : Aside0 (Below w.heap.size w w3) := ⟨(below_alloc (HB.out.setCell (Nat.le_refl _) _) _).grown hgrow (by have := HB.out.size; simp; omega) (fun k hk => Nat.le_trans (Nat.le_succ _) (own_base HO.out k hk))⟩
            clear hown' hgrow
            go_wp2_with fail
            go_roundw
            case rel => exact ⟨i + 1, p, by omega, Hp, rfl, by go_num, by rw [HS'.out]; exact Hb3.out, by rw [HS'.out]; exact HO3.out, HB3.out⟩
            case measure => simp [intOf]; omega
        · have hcx2 : c < x := by omega
          by_cases hg : (c : Int) ∈ S
          · have g0 : decide ((c : Int) ∈ S) = true := decide_eq_true hg
            rw [g0] at cc
            have hn : cntS S (c + 1) = cntS S c := by simp [cntS, hg]
            clear g0
            go_wp2_with fail
            go_roundw
            case rel => exact ⟨c + 1, by omega, by omega, rfl, by go_num, by rw [hn], Hb.out, HO.out, HB.out⟩
            case measure => simp [intOf]; omega
          · have g0 : decide ((c : Int) ∈ S) = false := decide_eq_false hg
            rw [g0] at cc
            have hn : cntS S (c + 1) = cntS S c + 1 := by simp [cntS, hg]
            have hle := cnt_mono S (c + 1) (x - (c + 1))
            rw [show c + 1 + (x - (c + 1)) = x by omega, Hcnt.out, hn] at hle
            obtain ⟨k, hk⟩ : ∃ k, k = cntS S c := ⟨_, rfl⟩
            rw [← hk] at hn hle ⊢
            have t1 : ((q : Int) - (k : Int) == 0) = false := beq_eq_false_iff_ne.mpr (by omega)
            have t2 : IntKind.u64.wrap ((q : Int) - (k : Int) - 1) = (q : Int) - (k : Int) - 1 := by rw [Go.IntKind.wrap_u64]; omega
            clear g0
            go_wp2_with fail
            go_roundw
            case rel => exact ⟨c + 1, by omega, by omega, rfl, by go_num, by rw [hn]; congr 1; omega, Hb.out, HO.out, HB.out⟩
            case measure => simp [intOf]; omega
    · obtain rfl : n = i := by omega
      have hl : decide ((n : Int) < (n : Int)) = false := decide_eq_false (by omega)
      go_wp2_with fail
      go_ret2
      exact ⟨_, rfl, HO.out, HB.out⟩
end Go.Proofs.Ytnbnaflhijfamaa.GoneMem
