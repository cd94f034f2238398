/- Any request takes the seats of the document, whatever a seat and the most are: the law WidthAll returns true for all numbers and every request, and its arguments read as before; no condition. -/
import Derived.Test.YteiejbkohnokaaaRows
import Derived.Test.YteiejbkohnokaaaPureWidthAll
import Derived.Test.YteiejbkohnokaaaOpenReq
import Derived.WalkKit
import Derived.ProofKit
import Derived.OpenShut
import Derived.ShutString
import Derived.ChangeOld
import Derived.Below
import Derived.SizedLaws
namespace Go.Proofs.Yteiejbkohnokaaa.widthAll
open Go.ChangeShapes Go.WideShapes Go.ChangeAt Go.RowKit
set_option linter.unusedVariables false
theorem own : ownKnob Try.prog.godebug = none := by kernel_rfl
theorem laidOut : laidOutB Try.prog = true := by kernel_rfl
set_option maxRecDepth 100000 in
theorem lifted (os : Os) (started : os.Started) (H : Type) (enc : TypeId × Value → H) :
    ReturnsInHanded {} Try.checked os 11 .any (Rows.widthAllSpec.pre6 enc Try.prog Try.f11 Rows.widthAllRow.domain false) (Rows.widthAllSpec.post enc Try.prog Try.f11 false true false false) := by
  refine returnsInHanded_of_change_sized (C := Try.checked) own started (by kernel_rfl) Try.func11
    (ChangeSpec.witness6 (enc := enc) (C := Try.checked) false ⟨#[], #[.int .i64 0, .int .i64 0, .agg #[.string ByteArray.empty, .slice none 0 0, .string ByteArray.empty, .string ByteArray.empty, .string ByteArray.empty, .int .i64 0]], []⟩ 8 (by kernel_rfl) (by kernel_rfl) (by kernel_rfl) (by kernel_rfl)) ?_
  intro W base args ds gs before hval0 hW hcnd hsz0 _
  have hval : ∀ (j : Nat) t v, Try.f11.params[j]? = some t → args[j]? = some v → Value.okWide Try.prog W .any base t v := hval0
  have hW' := hW
  obtain ⟨p, q, hA0, hV, rfl, hfz, hnd⟩ := hW
  have hA : DataW.TrodAll enc Try.prog W 0 (fun _ => true) true Try.f11.params.toList args.toList ds p := hA0
  rw [Try.params11] at hA hval
  obtain ⟨v0, vs0, d0, ds0, p0, q0, hargs, rfl, rfl, h0, r0⟩ := trodAll_cons hA
  obtain ⟨v1, vs1, d1, ds1, p1, q1, rfl, rfl, rfl, h1, r1⟩ := trodAll_cons r0
  obtain ⟨v2, vs2, d2, ds2, p2, q2, rfl, rfl, rfl, h2, r2⟩ := trodAll_cons r1
  obtain ⟨rfl, rfl, rfl⟩ := trodAll_nil r2
  obtain rfl : args = #[v0, v1, v2] := by cases args; simp_all
  obtain ⟨rfl, rfl⟩ := trodVars_none hV
  obtain ⟨a, rfl, rfl, rfl, wa⟩ := open_int Try.underlying3 (hval 0 3 v0 rfl rfl) h0
  obtain ⟨b, rfl, rfl, rfl, wb⟩ := open_int Try.underlying3 (hval 1 3 v1 rfl rfl) h1
  have hk := h2
  obtain ⟨u, A, g, c, vb, rs, sp, o, rfl, hC, hc, hg, wo⟩ := OpenReq.open_req (hval 2 40 v2 rfl rfl) h2
  clear hA0 hval0 hsz0
  refine ((fun (hh : ∃ k, PWidthAll.usherlaw17_WidthAll.f k a b u g vb rs sp o = some true) => PWidthAll.usherlaw17_WidthAll.calls hh.choose a b u A c g vb rs sp o true W hC hc hh.choose_spec) (Pure.WidthAll a b u g vb rs sp o hg (OpenReq.wf_i64 wa).2 (OpenReq.wf_i64 wo).2)).mono fun e W' ⟨he, bel⟩ => ?_
  subst he
  have hlt : ∀ z ∈ p2, z.block < W.heap.size := fun z hz => hW'.lt z (by simp [hz])
  exact ⟨_, rfl, _, _, _, [], _, [], hW', trodAll_mk1 (shut_bool Try.underlying4 _), (trodAll_cons_mk (shut_int Try.underlying3 wa) (trodAll_cons_mk (shut_int Try.underlying3 wb) (trodAll_cons_mk (Below.trod laidOut (by kernel_rfl) (of_decide_eq_true (by kernel_rfl)) hk bel hlt) trodAll_mk0))), rfl, bel.frame _, fun h => by cases h⟩
theorem over : Rows.widthAllRow.holds Try.pinned (OpenSpec.ofChange Rows.widthAllSpec) :=
  OpenClaim.holds_of_wide 11 Try.f11 rfl rfl rfl rfl rfl rfl rfl ⟨rfl, rfl, rfl, rfl, rfl⟩ rfl rfl rfl rfl rfl (by kernel_rfl) Try.func11 (by kernel_rfl)
    (of_decide_eq_true (by kernel_rfl)) (by unfold Func.isWrapper; first | (rw [if_pos (by decide +kernel)]; kernel_rfl) | (rw [if_neg (by decide +kernel)]; exact ⟨rfl, rfl⟩))
    (fun os started H enc _ => lifted os started H enc)
theorem proved : Rows.WidthAllSaid := over
#print axioms proved
end Go.Proofs.Yteiejbkohnokaaa.widthAll
namespace Go.Proofs.Yteiejbkohnokaaa
/-- The row, under a short name, for the claim. -/
theorem widthAll_holds : Rows.WidthAllSaid := widthAll.proved
end Go.Proofs.Yteiejbkohnokaaa
