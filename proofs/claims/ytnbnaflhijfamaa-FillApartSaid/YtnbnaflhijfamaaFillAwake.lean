/- The law's fixed first answer: filling nothing gives two levels and two schemas. -/
import Derived.Test.YtnbnaflhijfamaaFillIs
namespace Go.Proofs.Ytnbnaflhijfamaa.FillAwake
open Go.RowKit Go.Proofs.YtnbnaflhijfamaaW.PrintWords Go.Proofs.YtnbnaflhijfamaaW.PrintLast Go.Proofs.YtnbnaflhijfamaaW.PrintMore Go.Proofs.Ytnbnaflhijfamaa.PFillAll Go.Proofs.Ytnbnaflhijfamaa.FillMap Go.Proofs.Ytnbnaflhijfamaa.FillWalk Go.Proofs.Ytnbnaflhijfamaa.FillIs

theorem C_nil {α : Type} (d : Kd α) (w : World) : d.C w none 0 [] := ⟨rfl, by decide, fun h => absurd h (by decide)⟩
theorem ok_nil : Ok 1000 [] [] := ⟨by decide, by decide, by simp, by simp⟩
theorem fillL_nil : fillL [] = [exL, caL] := rfl
theorem fillS_nil : fillS [] = [exC, caC] := rfl

set_option maxHeartbeats 1000000 in
theorem awake_any (w : World) : Calls Try.prog 11 #[] w fun e w' => e = .returned (.bool true) ∧ Below w.heap.size w w' := by
  go_enter Try.func11, Try.ntmps11
  go_wp2_with fail
  refine (fill_any 0 0 0 0 none 0 [] none 0 [] _ (C_nil _ _) (Nat.le_refl _) (C_nil _ _) (Nat.le_refl _) ok_nil).mono ?_
  rintro e w1 ⟨v4, v5, rfl, h4, h5, hb⟩
  rw [fillL_nil] at h4
  rw [fillS_nil] at h5
  obtain ⟨A4, c4, e4⟩ := Kd.R_slice h4
  replace e4 : v4 = .slice A4 2 c4 := e4
  subst e4
  obtain ⟨A5, c5, rfl, hle, hC⟩ := Kd.R_reads h5
  obtain ⟨ad, A6, c6, e, -, -, hx, -⟩ := at_T34 hC 1 (by decide) (by decide)
  subst e
  obtain ⟨g, rfl⟩ := Kd.R_head h5
  replace hx : w1.cell? ⟨g, 7, none⟩ = some (.int .i64 10000) := by
    have h2 : (⟨g, 0, none⟩ : Addr).add ((1 : Int).toNat * 5) = ⟨g, 5, none⟩ := add_plain g 5
    rw [h2] at hx
    exact hx
  replace hle : c5 = c5 := rfl
  have HB := Aside0.mk hb
  have HX := Aside0.mk hx
  clear hb h4 h5 hC hx hle
  go_wp2_with (first | ((with_reducible refine gate_dst (N := 4) rfl ?_); refine new_world ?_; intro W1 hbox hb; have h0 : W1.cell? ⟨w1.heap.size, 0, none⟩ = some (.int .i64 100) := (blk_cell hbox 0).trans rfl; have h4 : W1.cell? ⟨w1.heap.size, 4, none⟩ = some (.slice A4 2 c4) := (blk_cell hbox 4).trans rfl; have h5 : W1.cell? ⟨w1.heap.size, 5, none⟩ = some (.slice (some ⟨g, 0, none⟩) 2 c5) := (blk_cell hbox 5).trans rfl; have hx : W1.cell? ⟨g, 7, none⟩ = some (.int .i64 10000) := pw_cell_below hb HX.out; have HB1 := Aside0.mk (below_step HB.out hb); clear hb hbox HB HX))
  go_ret
  exact ⟨rfl, HB1.out⟩
end Go.Proofs.Ytnbnaflhijfamaa.FillAwake
