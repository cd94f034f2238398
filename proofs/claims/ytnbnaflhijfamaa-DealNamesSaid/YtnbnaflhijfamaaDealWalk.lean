/- The walk of the program's function deal.Deal, where there is a hand to deal: a new row that holds the hand; below its own memory the world stays as it was. -/
import Derived.Test.YtnbnaflhijfamaaPDealAllx1
import Derived.Test.YtnbnaflhijfamaaDealMem
import Derived.Test.YtnbnaflhijfamaaDealMath
import Derived.Laws.Bits64
namespace Go.Proofs.Ytnbnaflhijfamaa.DealWalk
open Go.RowKit Go.Proofs.YtnbnaflhijfamaaW.PrintWords Go.Proofs.YtnbnaflhijfamaaW.PrintMore Go.Proofs.Ytnbnaflhijfamaa.DealMem Go.Proofs.Ytnbnaflhijfamaa.DealMath

theorem info3 : (Try.prog.info? 3).map (fun i => (i.zero, i.size, i.bytes)) = some (some (.int .i64 0), 1, 8) := by kernel_rfl

theorem made_ints (n : Nat) : madeCells #[Value.int .i64 0] n = intsA (List.replicate n 0) := by
  apply Array.toList_inj.1
  rw [toList_madeCells_one]
  simp [intsA]
theorem made_blk (w : World) (n : Nat) : blkL (w.alloc (.cells (madeCells #[Value.int .i64 0] n) 3)) w.heap.size (List.replicate n 0) := by
  unfold blkL
  rw [made_ints]
  exact blk_new w _
theorem div_wrap (r m : Nat) (h : r < 18446744073709551616) : IntKind.u64.wrap ((r : Int) / (m : Int)) = ((r / m : Nat) : Int) := by
  have := Nat.div_le_self r m
  rw [← Int.natCast_ediv, Go.IntKind.wrap_u64]
  generalize r / m = z at *
  omega
theorem mod_wrap (r m : Nat) (hm : 0 < m) (h : m ≤ 64) : wrap64 ((r : Int) % (m : Int)) = ((r % m : Nat) : Int) := by
  have := Nat.mod_lt r hm
  rw [← Int.natCast_emod]
  generalize r % m = z at *
  unfold wrap64
  omega
theorem blkL_far {w : World} {g : Nat} {L : List Int} (h : blkL w g L) {p : Addr} (hp : g ≠ p.block) (u : Value) : blkL (w.setCell p u) g L := blk_far h hp u
theorem handL_set {h : Nat} {left : List Int} {i n : Nat} (hi : i < n) {x : Int} (hx : x = (leftL h left i).getD (restN h left i % (leftL h left i).length) 0) : (handL h left i n).set i x = handL h left (i + 1) n := by
  unfold handL
  rw [dealL_succ, ← hx, List.set_append, if_neg (by rw [dealL_length]; omega), dealL_length, Nat.sub_self, show n - i = (n - (i + 1)) + 1 by omega, List.replicate_succ]
  simp
/-- A hand in new memory. -/
def Dealt (w : World) (L : List Int) (e : Ending) (w' : World) : Prop := ∃ g : Nat, e = .returned (.tuple #[.slice (some ⟨g, 0, none⟩) L.length L.length, .int .i64 0]) ∧ w.heap.size ≤ g ∧ blkL w' g L ∧ Below w.heap.size w w'

set_option maxHeartbeats 2000000 in
theorem deal_walk (h d n : Nat) (P : Int) (hh : h < 18446744073709551616) (d1 : 1 ≤ d) (d64 : d ≤ 64) (n1 : 1 ≤ n) (n8 : n ≤ 8) (nd : n ≤ d) (w : World)
    (hands : Aside0 (∀ w, Calls Try.prog 20 #[.int .i64 d, .int .i64 n] w fun e w' => e = .returned (.tuple #[.int .u64 P, .int .i64 0]) ∧ Drawn0 w w')) :
    Calls Try.prog 18 #[.int .u64 h, .int .i64 d, .int .i64 n] w (Dealt w (dealL h (deckL d) n)) := by
  have hmk := fun wx => run_make_row' (P := Try.prog) 40 3 (.int .i64 0) 8 Try.underlying40 info3 rfl .i64 .i64 d (by omega) (by omega) wx
  have hmk2 := fun wx => run_make_row' (P := Try.prog) 40 3 (.int .i64 0) 8 Try.underlying40 info3 rfl .i64 .i64 n (by omega) (by omega) wx
  go_enter Try.func18, Try.ntmps18
  go_wp2_with (go_at_call 20; (with_reducible refine (hands.out _).mono ?_); rintro e w' ⟨rfl, ⟨nw, rfl⟩⟩)
  have hb0 := Aside0.mk (made_blk (w.drewN nw) d)
  have HB0 := Aside0.mk (below_alloc (pw_below_drewN (Below.refl w.heap.size w) nw) (.cells (madeCells #[Value.int .i64 0] d) 3))
  go_loopw [28] (fun s wr => ∃ k : Nat, k ≤ d ∧ s = .int .i64 k ∧ blkL wr w.heap.size (countL k d) ∧ Below w.heap.size w wr) (fun s _ => d - (intOf s).toNat)
  case atStart => exact ⟨0, by omega, rfl, by rw [countL_zero]; exact hb0.out, HB0.out⟩
  case round =>
    clear hb0 HB0
    obtain ⟨k, hk, rfl, hb, HB⟩ := hrel
    have Hb := Aside0.mk hb
    have HB := Aside0.mk HB
    clear hb
    by_cases hkd : k < d
    · have hc := blkL_cell Hb.out k (by rw [countL_length hk]; exact hkd)
      have hf := blkL_frozen Hb.out k
      have hl : decide ((k : Int) < (d : Int)) = true := decide_eq_true (by omega)
      go_wp2
      go_roundw
      case rel => exact ⟨k + 1, by omega, by go_num, by rw [← countL_set hkd]; exact blkL_set Hb.out k _, HB.out.setCell (Nat.le_refl _) _⟩
      case measure => simp [intOf]; omega
    · obtain rfl : d = k := by omega
      have Hs := blk_lt Hb.out
      rw [countL_all] at Hb
      go_wp2_with fail
      have hb2 := Aside0.mk (made_blk wr n)
      have Hb1 := Aside0.mk (show blkL (wr.alloc (.cells (madeCells #[Value.int .i64 0] n) 3)) w.heap.size (deckL d) from blk_alloc Hb.out _)
      have HB1 := Aside0.mk (below_alloc HB.out (.cells (madeCells #[Value.int .i64 0] n) 3))
      obtain ⟨g2, hg2⟩ : ∃ g2, g2 = wr.heap.size := ⟨_, rfl⟩
      have hne := Aside0.mk (show w.heap.size ≠ g2 by omega)
      have hge := Aside0.mk (show w.heap.size ≤ g2 by omega)
      rw [← hg2] at hb2 ⊢
      clear Hs Hb HB hmk hmk2 hg2
      go_loopw [0, 10, 40] (fun s0 s10 s40 w2 => ∃ (i m r : Nat) (T : List Int), i ≤ n ∧ Aside0 (m = d - i) ∧ Aside0 (r = restN h (deckL d) i) ∧ s0 = .int .u64 r ∧ s10 = .slice (some ⟨w.heap.size, 0, none⟩) m d ∧ s40 = .int .i64 i ∧ blkL w2 w.heap.size (leftL h (deckL d) i ++ T) ∧ blkL w2 g2 (handL h (deckL d) i n) ∧ Below w.heap.size w w2) (fun _ _ s _ => n - (intOf s).toNat)
      case atStart => exact ⟨0, d, h, [], by omega, ⟨rfl⟩, ⟨rfl⟩, rfl, rfl, rfl, by simpa [leftL] using Hb1.out, by simpa [handL, dealL] using hb2.out, HB1.out⟩
      case round =>
        clear hb2 Hb1 HB1
        obtain ⟨i, m, r, T, hi, hm, hr, rfl, rfl, rfl, hL, hH, hB⟩ := hrel
        have HL := Aside0.mk hL
        have HH := Aside0.mk hH
        have HB := Aside0.mk hB
        clear hL hH hB
        by_cases hin : i < n
        · have hl : decide ((i : Int) < (n : Int)) = true := decide_eq_true (by omega)
          have m1 : 1 ≤ m := by have := hm.out; omega
          have m64 : m ≤ 64 := by have := hm.out; omega
          have r64 : r < 18446744073709551616 := by have := hr.out; have := restN_le i h (deckL d); omega
          obtain ⟨q, hq⟩ : ∃ q, q = r % m := ⟨_, rfl⟩
          obtain ⟨p, hp⟩ : ∃ p, p = r / m := ⟨_, rfl⟩
          have E1 : Aside0 (wrap64 ((r : Int) % (m : Int)) = (q : Int)) := ⟨by subst hq; exact mod_wrap r m (by omega) m64⟩
          have E2 : Aside0 (IntKind.u64.wrap ((r : Int) / (m : Int)) = (p : Int)) := ⟨by subst hp; exact div_wrap r m r64⟩
          have qm : q < m := by subst hq; exact Nat.mod_lt _ (by omega)
          have qm' : (q : Int) < (m : Int) := by omega
          have q0 : (0 : Int) ≤ (q : Int) := by omega
          have Hq := Aside0.mk hq
          have Hp := Aside0.mk hp
          clear hq hp
          have hll : (leftL h (deckL d) i).length = m := by rw [leftL_length _ _ _ (by rw [deckL_length]; omega), deckL_length]; exact hm.out.symm
          obtain ⟨x, hx⟩ : ∃ x, x = (leftL h (deckL d) i).getD q 0 := ⟨_, rfl⟩
          have cx : wr.cell? ⟨w.heap.size, q, none⟩ = some (.int .i64 x) := by
            rw [blkL_cell HL.out q (by simp; omega), hx]
            congr 2
            simp [List.getD_eq_getElem?_getD, List.getElem?_append_left (show q < (leftL h (deckL d) i).length by omega)]
          have Hx := Aside0.mk hx
          have Hll := Aside0.mk hll
          have ch := blkL_cell HH.out i (by simp [handL, dealL_length]; omega)
          have fh := blkL_frozen HH.out i
          clear hx hll
          have e1 := E1.out
          have e2 := E2.out
          go_wp2_with fail
          clear e1 e2
          refine (delete_any w.heap.size m d (leftL h (deckL d) i) T q _ _ _ (blkL_far HL.out hne.out _) Hll.out qm (by have := hm.out; omega) (by omega) rfl rfl).mono ?_
          rintro e w3 ⟨rfl, hd3, hg3⟩
          have X : x = (leftL h (deckL d) i).getD (restN h (deckL d) i % (leftL h (deckL d) i).length) 0 := by rw [Hx.out, Hq.out, hr.out, Hll.out]
          have HL2 : Aside0 (blkL w3 w.heap.size (leftL h (deckL d) (i + 1) ++ 0 :: T)) := ⟨by
            rw [leftL_succ, ← hr.out, Hll.out, ← Hq.out]; exact hd3⟩
          have HH2 : Aside0 (blkL w3 g2 (handL h (deckL d) (i + 1) n)) := ⟨by
            rw [← handL_set hin X]
            exact blkL_grown (blkL_set HH.out i x) hg3 (Ne.symm hne.out)⟩
          have HB2 : Aside0 (Below w.heap.size w w3) := ⟨(HB.out.setCell hge.out _).grown hg3 (by have := HB.out.size; simpa [World.setCell] using this) (by intro k hk; cases hk; exact Nat.le_refl _)⟩
          have R2 : Aside0 (p = restN h (deckL d) (i + 1)) := ⟨by rw [restN_succ, ← hr.out, Hll.out]; exact Hp.out⟩
          clear hd3 hg3 cx ch fh
          go_wp2_with fail
          go_roundw
          case rel => exact ⟨i + 1, m - 1, p, 0 :: T, by omega, ⟨by have := hm.out; omega⟩, R2, rfl, rfl, by go_num, HL2.out, HH2.out, HB2.out⟩
          case measure => simp [intOf]; omega
        · obtain rfl : n = i := by omega
          have hn2 : (handL h (deckL d) n n) = dealL h (deckL d) n := by simp [handL]
          have HH2 : Aside0 (blkL wr g2 (dealL h (deckL d) n)) := ⟨by rw [← hn2]; exact HH.out⟩
          have hln : (dealL h (deckL d) n).length = n := dealL_length _ _ _
          have Hln := Aside0.mk hln
          clear hln hn2 HH
          go_wp2_with fail
          go_ret2
          exact ⟨g2, by rw [Hln.out]; rfl, hge.out, HH2.out, HB.out⟩
end Go.Proofs.Ytnbnaflhijfamaa.DealWalk
