/- Any cards are told as the hand that they are, or refused: the law DealNames returns true for every row of cards and every deck, and its arguments read as before; no condition. -/
import Derived.Test.YtnbnaflhijfamaaRows
import Derived.Test.YtnbnaflhijfamaaWalkDealNames
import Derived.WalkKit
import Derived.ProofKit
import Derived.OpenShut
import Derived.ShutString
import Derived.ChangeOld
import Derived.Below
import Derived.SizedLaws
namespace Go.Proofs.Ytnbnaflhijfamaa.dealNames
open Go.ChangeShapes Go.WideShapes Go.ChangeAt Go.RowKit
set_option linter.unusedVariables false
open Go.Proofs.YtnbnaflhijfamaaW.PrintWords in
theorem open_hand {H : Type} {enc : TypeId × Value → H} {w : World} {base : Nat} {held : Bool} {r : Reach} {b0 : Nat} {v : Value} {d : DataW H} {p : List MemPlace}
    (hv : Value.okWide Try.prog w r b0 40 v) (h : DataW.Trod enc Try.prog w base (fun _ => true) held 40 v d p) :
    ∃ (A : Option Addr) (L : List Int) (c : Nat), v = .slice A L.length c ∧ Kd.C (Kd.int .i64) w A L.length L ∧ L.length ≤ c := by
  obtain ⟨A0, len0, cap0, rfl⟩ := okWide_slice Try.underlying40 hv
  obtain ⟨fuel, hf⟩ := h
  rcases open_ints Try.underlying40 Try.underlying3 (by kernel_rfl) hf with ⟨hcs, _⟩ | ⟨a, len, cap, zs, hcs, _, hl, hm, hall, _, hcell, _⟩
  · simp [Value.cells] at hcs
    obtain ⟨rfl, rfl, rfl⟩ := hcs
    exact ⟨none, [], 0, rfl, Kd.C_nil _ _, Nat.le_refl _⟩
  · simp [Value.cells] at hcs
    obtain ⟨rfl, rfl, rfl⟩ := hcs
    simp only [if_true] at hall
    have hlen : (zs.take len0).length = len0 := by rw [List.length_take]; omega
    have hm' : len0 ≤ 9223372036854775807 := by unfold maxLen at hm; omega
    refine ⟨some a, zs.take len0, cap0, by rw [hlen], ?_, by omega⟩
    refine ⟨rfl, by omega, fun _ => ⟨a, rfl, fun j p hp => ?_⟩⟩
    have hj : j < len0 := by
      rcases Nat.lt_or_ge j len0 with h' | h'
      · exact h'
      · rw [List.getElem?_eq_none (by omega)] at hp; cases hp
    refine ⟨[.int .i64 p], rfl, rfl, fun i u hi => ?_⟩
    cases i with
    | zero =>
      simp at hi; subst hi
      have := hcell j (by omega)
      rw [List.getElem?_take_of_lt hj] at hp
      rw [List.getD_eq_getElem?_getD, hp] at this
      simpa [Kd.int, Kd.scalar] using this
    | succ i => simp at hi
theorem laidOut : laidOutB Try.prog = true := by kernel_rfl
theorem own : ownKnob Try.prog.godebug = none := by kernel_rfl
set_option maxRecDepth 100000 in
theorem lifted (os : Os) (started : os.Started) (H : Type) (enc : TypeId × Value → H) :
    ReturnsInHanded {} Try.checked os 9 .any (Rows.dealNamesSpec.pre6 enc Try.prog Try.f9 Rows.dealNamesRow.domain false) (Rows.dealNamesSpec.post enc Try.prog Try.f9 false true false false) := by
  refine returnsInHanded_of_change_sized (C := Try.checked) own started (by kernel_rfl) Try.func9
    (ChangeSpec.witness6 (enc := enc) (C := Try.checked) false ⟨#[], #[.slice none 0 0, .int .i64 0], []⟩ 8 (by kernel_rfl) (by kernel_rfl) (by kernel_rfl) (by kernel_rfl)) ?_
  intro W base args ds gs before hval0 hW hcnd hsz0 _
  have hval : ∀ (j : Nat) t v, Try.f9.params[j]? = some t → args[j]? = some v → Value.okWide Try.prog W .any base t v := hval0
  have hW' := hW
  obtain ⟨p, q, hA0, hV, rfl, hfz, hnd⟩ := hW
  have hA : DataW.TrodAll enc Try.prog W 0 (fun _ => true) true Try.f9.params.toList args.toList ds p := hA0
  rw [Try.params9] at hA hval
  obtain ⟨v0, vs0, d0, ds0, p0, q0, hargs, rfl, rfl, h0, r0⟩ := trodAll_cons hA
  obtain ⟨v1, vs1, d1, ds1, p1, q1, rfl, rfl, rfl, h1, r1⟩ := trodAll_cons r0
  obtain ⟨rfl, rfl, rfl⟩ := trodAll_nil r1
  obtain rfl : args = #[v0, v1] := by cases args; simp_all
  obtain ⟨rfl, rfl⟩ := trodVars_none hV
  have hk := h0
  obtain ⟨A, L, c, rfl, hC, hc⟩ := open_hand (hval 0 40 v0 rfl rfl) h0
  obtain ⟨a1, rfl, rfl, rfl, w1⟩ := open_int Try.underlying3 (hval 1 3 v1 rfl rfl) h1
  clear hA0 hval0 hsz0
  refine (WalkDealNames.law A c L a1 W hC hc).mono fun e W' ⟨he, bel⟩ => ?_
  subst he
  have hlt : ∀ z ∈ p0, z.block < W.heap.size := fun z hz => hW'.lt z (by simp [hz])
  exact ⟨_, rfl, _, _, _, [], _, [], hW', trodAll_mk1 (shut_bool Try.underlying4 _), (trodAll_cons_mk (Below.trod laidOut (by kernel_rfl) (of_decide_eq_true (by kernel_rfl)) hk bel hlt) (trodAll_cons_mk (shut_int Try.underlying3 w1) trodAll_mk0)), rfl, bel.frame _, fun h => by cases h⟩
theorem over : Rows.dealNamesRow.holds Try.pinned (OpenSpec.ofChange Rows.dealNamesSpec) :=
  OpenClaim.holds_of_wide 9 Try.f9 rfl rfl rfl rfl rfl rfl rfl ⟨rfl, rfl, rfl, rfl, rfl⟩ rfl rfl rfl rfl rfl (by kernel_rfl) Try.func9 (by kernel_rfl)
    (of_decide_eq_true (by kernel_rfl)) (by unfold Func.isWrapper; first | (rw [if_pos (by decide +kernel)]; kernel_rfl) | (rw [if_neg (by decide +kernel)]; exact ⟨rfl, rfl⟩))
    (fun os started H enc _ => lifted os started H enc)
theorem proved : Rows.DealNamesSaid := over
#print axioms proved
end Go.Proofs.Ytnbnaflhijfamaa.dealNames
namespace Go.Proofs.Ytnbnaflhijfamaa
/-- The row, under a short name, for the claim. -/
theorem dealNames_holds : Rows.DealNamesSaid := dealNames.proved
end Go.Proofs.Ytnbnaflhijfamaa
