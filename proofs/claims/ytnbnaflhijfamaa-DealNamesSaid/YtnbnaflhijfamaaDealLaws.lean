/- The contracts of the reference's Same on equal lists and of the laws' awake; no condition beyond the sizes that each names. -/
import Derived.Test.YtnbnaflhijfamaaHandsIs
namespace Go.Proofs.Ytnbnaflhijfamaa.DealLaws
open Go.RowKit Go.Proofs.YtnbnaflhijfamaaW.PrintWords Go.Proofs.YtnbnaflhijfamaaW.PrintMore Go.Proofs.Ytnbnaflhijfamaa.DealMem Go.Proofs.Ytnbnaflhijfamaa.DealMath Go.Proofs.Ytnbnaflhijfamaa.DealWalk Go.Proofs.Ytnbnaflhijfamaa.HandsIs Go.Proofs.Ytnbnaflhijfamaa.PDealAll

theorem same_loop (l : List Int) (hl : l.length ≤ 9223372036854775807) : ∀ (j k i : Nat), l.length - i = j → j < k → i ≤ l.length → usherref02_Same.l0 k l l (i : Int) = some true := by
  intro j
  induction j with
  | zero =>
    intro k i hj hk hi
    obtain ⟨k, rfl⟩ : ∃ m, k = m + 1 := ⟨k - 1, by omega⟩
    simp only [usherref02_Same.l0]
    rw [if_neg (by omega)]
  | succ j ih =>
    intro k i hj hk hi
    obtain ⟨k, rfl⟩ : ∃ m, k = m + 1 := ⟨k - 1, by omega⟩
    have e2 : wrap64 ((i : Int) + 1) = ((i + 1 : Nat) : Int) := by unfold wrap64; omega
    simp only [usherref02_Same.l0]
    rw [if_pos (by omega), if_pos (by omega), if_pos (by omega), if_pos trivial, e2]
    exact ih k (i + 1) (by omega) (by omega) (by omega)

theorem same_any (A0 A1 : Option Addr) (c0 c1 : Nat) (l : List Int) (hl : l.length ≤ 9223372036854775807) (w : World) (h0 : Kd.C (Kd.int .i64) w A0 l.length l) (hc0 : l.length ≤ c0) (h1 : Kd.C (Kd.int .i64) w A1 l.length l) (hc1 : l.length ≤ c1) :
    Calls Try.prog 22 #[.slice A0 l.length c0, .slice A1 l.length c1] w fun e w' => e = .returned (.bool true) ∧ Drawn0 w w' := by
  refine usherref02_Same.calls (l.length + 2) A0 c0 l A1 c1 l true w h0 hc0 h1 hc1 ?_
  unfold usherref02_Same.f
  rw [if_pos rfl]
  exact same_loop l hl l.length (l.length + 2) 0 (by omega) (by omega) (by omega)

theorem five : dealL 5 (deckL (4 : Int).toNat) (2 : Int).toNat = [1, 2] := by decide +kernel

set_option maxHeartbeats 1000000 in
theorem awake_any (w : World) : Calls Try.prog 17 #[] w fun e w' => e = .returned (.bool true) ∧ Below w.heap.size w w' := by
  have c := Aside0.mk (fun w => deal_ok 5 4 2 (by decide) (by decide +kernel) w)
  rw [five] at c
  go_enter Try.func17, Try.ntmps17
  go_wp2_with fail
  refine (c.out _).mono ?_
  rintro e w1 ⟨g, rfl, hg, hb, hB⟩
  have HB := Aside0.mk hB
  have Hb := Aside0.mk hb
  clear hb hB
  go_wp2_with fail
  have Hl : Aside0 (blkL (w1.alloc (.cells #[.int .i64 1, .int .i64 2] 3)) w1.heap.size [1, 2]) := ⟨blk_new w1 _⟩
  have Hg : Aside0 (blkL (w1.alloc (.cells #[.int .i64 1, .int .i64 2] 3)) g [1, 2]) := ⟨blk_alloc Hb.out _⟩
  refine (same_any _ _ _ _ [1, 2] (by decide) _ (blk_C Hg.out (by decide)) (by decide) (blk_C Hl.out (by decide)) (by decide)).mono ?_
  rintro e w2 ⟨rfl, hd⟩
  have HB2 := Aside0.mk (below_step (below_alloc HB.out (.cells #[.int .i64 1, .int .i64 2] 3)) hd.below)
  clear hd
  go_wp2_with fail
  go_ret
  exact ⟨rfl, HB2.out⟩
end Go.Proofs.Ytnbnaflhijfamaa.DealLaws
