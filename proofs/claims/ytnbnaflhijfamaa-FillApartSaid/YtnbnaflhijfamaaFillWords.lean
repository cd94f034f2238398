/- The contract of the program's function fill.words: the same texts in memory of its own; the row of at most 2^43 texts. -/
import Derived.Test.YtnbnaflhijfamaaPFillAllx2
import Derived.Test.YtnbnaflhijfamaaPFillAllx3
namespace Go.Proofs.Ytnbnaflhijfamaa.FillWords
open Go.RowKit Go.Proofs.YtnbnaflhijfamaaW.PrintWords Go.Proofs.YtnbnaflhijfamaaW.PrintLast Go.Proofs.YtnbnaflhijfamaaW.PrintMore Go.Proofs.Ytnbnaflhijfamaa.PFillAll
set_option maxHeartbeats 1000000 in
theorem words_any (A : Option Addr) (c : Nat) (l : List ByteArray) (w : World) (hr : Kd.C Kd.string w A l.length l) (hl : l.length < 8796093022208) :
    Calls Try.prog 34 #[.slice A l.length c] w fun e w' => ∃ v : Value, e = .returned v ∧ Kd.R Kd.string 9 w' w.heap.size (fun _ => True) v l ∧ Below w.heap.size w w' := by
  have HR := Aside0.mk hr
  clear hr
  have HB := Aside0.mk (Below.refl w.heap.size w)
  have LM := Aside0.mk hl
  clear hl
  go_enter Try.func34, Try.ntmps34
  go_wp2_with (at_builtin; refine Kd.R_append_rows Kd.string (w0 := w) w.heap.size rfl (.const (.slice none 0 0)) (.tmp 3) 35 9 (.string ⟨#[]⟩) 16 rfl Try.underlying35 info9 rfl (by decide) (by omega) (.slice none 0 0) [] l _ _ _ (fun _ => True) (fun _ => False) rfl rfl ?aO ?aR (fun _ _ h => h) (fun _ h => h.elim) ?aF ?aB ?aS ?aL ?_)
  case aO => exact Kd.R_nil _ _ _ _ _
  case aR => exact HR.out
  case aF => exact fun _ _ => trivial
  case aB => exact HB.out
  case aS => exact Nat.le_refl _
  case aL => have := LM.out; simp; omega
  intro v1 w1 ho hb hg hat
  have HO := Aside0.mk ho
  have HB1 := Aside0.mk hb
  clear ho hb hg hat
  go_wp2_with fail
  go_ret
  exact ⟨_, rfl, HO.out, HB1.out⟩
end Go.Proofs.Ytnbnaflhijfamaa.FillWords
