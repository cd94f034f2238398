/- The walk of the reference's fill: the same lists as the program's. -/
import Derived.Test.YtnbnaflhijfamaaFillRefIs
namespace Go.Proofs.Ytnbnaflhijfamaa.FillRef
open Go.RowKit Go.Proofs.YtnbnaflhijfamaaW.PrintWords Go.Proofs.YtnbnaflhijfamaaW.PrintLast Go.Proofs.YtnbnaflhijfamaaW.PrintMore Go.Proofs.Ytnbnaflhijfamaa.PFillAll Go.Proofs.Ytnbnaflhijfamaa.FillMap Go.Proofs.Ytnbnaflhijfamaa.FillState Go.Proofs.Ytnbnaflhijfamaa.FillWalk Go.Proofs.Ytnbnaflhijfamaa.FillIs Go.Proofs.Ytnbnaflhijfamaa.FillRefIs
set_option linter.unusedVariables false
set_option linter.unusedSimpArgs false

structure Rf (w W : World) (g1 g2 g3 : Nat) (a1 a2 a3 : Array Value) (vL : Value) (LL : List S31) (vS : Value) (SS : List S34) (vT : Value) (LT : List ByteArray) : Prop where
  b1 : W.heap[g1]? = some (.cells a1 25 (0, 0))
  b2 : W.heap[g2]? = some (.cells a2 25 (0, 0))
  b3 : W.heap[g3]? = some (.cells a3 25 (0, 0))
  hL : Kd.R k31 31 W w.heap.size (fun _ => True) vL LL
  hS : Kd.R k34 34 W w.heap.size (fun _ => True) vS SS
  hT : Kd.R Kd.string 9 W w.heap.size (fun _ => True) vT LT
  hB : Below w.heap.size w W
  e3 : w.heap.size ≤ g3
  n13 : g1 ≠ g3
  n23 : g2 ≠ g3
variable {w W W' : World} {g1 g2 g3 : Nat} {a1 a2 a3 : Array Value} {vL vS vT : Value} {LL : List S31} {SS : List S34} {LT : List ByteArray}
theorem Rf.below (h : Rf w W g1 g2 g3 a1 a2 a3 vL LL vS SS vT LT) (hb : Below W.heap.size W W') : Rf w W' g1 g2 g3 a1 a2 a3 vL LL vS SS vT LT :=
  ⟨blk_below h.b1 hb, blk_below h.b2 hb, blk_below h.b3 hb, Kd.R_below h.hL hb, Kd.R_below h.hS hb, Kd.R_below h.hT hb, below_step h.hB hb, h.e3, h.n13, h.n23⟩
theorem Rf.star (h : Rf w W g1 g2 g3 a1 a2 a3 vL LL vS SS vT LT) {v : Value} {l : List ByteArray} (hr : Kd.R Kd.string 9 W w.heap.size (fun _ => True) v l) : Rf w W g1 g2 g3 a1 a2 a3 vL LL vS SS v l :=
  ⟨h.b1, h.b2, h.b3, h.hL, h.hS, hr, h.hB, h.e3, h.n13, h.n23⟩
theorem far25 {α : Type} {d : Kd α} {e base g : Nat} {cells : Array Value} {v : Value} {xs : List α} (h : d.R e W base (fun _ => True) v xs) (hb : W.heap[g]? = some (.cells cells 25 (0, 0))) (ht : ∀ q, q ∈ e :: d.E → q ≠ 25) (j : Nat) (u : Value) : d.R e (W.setCell ⟨g, j, none⟩ u) base (fun _ => True) v xs :=
  Kd.R_mono (Kd.R_far (p := ⟨g, j, none⟩) (Kd.R_types h hb ht) (fun _ hk => hk.2) u) (fun _ _ => trivial)
theorem Rf.set3 (h : Rf w W g1 g2 g3 a1 a2 a3 vL LL vS SS vT LT) (j : Nat) (u : Value) : Rf w (W.setCell ⟨g3, j, none⟩ u) g1 g2 g3 a1 a2 (a3.setIfInBounds j u) vL LL vS SS vT LT :=
  ⟨blk_far h.b1 h.n13 _, blk_far h.b2 h.n23 _, blk_set h.b3 _ _, far25 h.hL h.b3 (by decide) _ _, far25 h.hS h.b3 (by decide) _ _, far25 h.hT h.b3 (by decide) _ _, below_set h.hB h.e3, h.e3, h.n13, h.n23⟩
theorem Rf.set2 (h : Rf w W g1 g2 g3 a1 a2 a3 vL LL vS SS vT LT) (n12 : g1 ≠ g2) (e2 : w.heap.size ≤ g2) (j : Nat) (u : Value) : Rf w (W.setCell ⟨g2, j, none⟩ u) g1 g2 g3 a1 (a2.setIfInBounds j u) a3 vL LL vS SS vT LT :=
  ⟨blk_far h.b1 n12 _, blk_set h.b2 _ _, blk_far h.b3 (Ne.symm h.n23) _, far25 h.hL h.b2 (by decide) _ _, far25 h.hS h.b2 (by decide) _ _, far25 h.hT h.b2 (by decide) _ _, below_set h.hB e2, h.e3, h.n13, h.n23⟩
theorem Rf.addL (h : Rf w W g1 g2 g3 a1 a2 a3 vL LL vS SS vT LT) {v' : Value} {L' : List S31} (hr : Kd.R k31 31 W' w.heap.size (fun _ => True) v' L') (hb : Below w.heap.size w W') (hg : W.grownBy W' vL.ownBlock) : Rf w W' g1 g2 g3 a1 a2 a3 v' L' vS SS vT LT :=
  ⟨blk_grown h.b1 hg (row_ne h.hL h.b1 (by decide)), blk_grown h.b2 hg (row_ne h.hL h.b2 (by decide)), blk_grown h.b3 hg (row_ne h.hL h.b3 (by decide)), hr, Kd.R_over' h.hS (Kd.R_typed h.hL) (by decide) hg, Kd.R_over' h.hT (Kd.R_typed h.hL) (by decide) hg, hb, h.e3, h.n13, h.n23⟩
theorem Rf.addS (h : Rf w W g1 g2 g3 a1 a2 a3 vL LL vS SS vT LT) {v' : Value} {S' : List S34} (hr : Kd.R k34 34 W' w.heap.size (fun _ => True) v' S') (hb : Below w.heap.size w W') (hg : W.grownBy W' vS.ownBlock) : Rf w W' g1 g2 g3 a1 a2 a3 vL LL v' S' vT LT :=
  ⟨blk_grown h.b1 hg (row_ne h.hS h.b1 (by decide)), blk_grown h.b2 hg (row_ne h.hS h.b2 (by decide)), blk_grown h.b3 hg (row_ne h.hS h.b3 (by decide)), Kd.R_over' h.hL (Kd.R_typed h.hS) (by decide) hg, hr, Kd.R_over' h.hT (Kd.R_typed h.hS) (by decide) hg, hb, h.e3, h.n13, h.n23⟩
theorem Rf.cell3 (h : Rf w W g1 g2 g3 a1 a2 a3 vL LL vS SS vT LT) (j : Nat) : W.cell? ⟨g3, j, none⟩ = a3[j]? := blk_cell h.b3 j
theorem Rf.froz3 (h : Rf w W g1 g2 g3 a1 a2 a3 vL LL vS SS vT LT) (j : Nat) : W.frozen? ⟨g3, j, none⟩ = false := blk_frozen h.b3 j
theorem Rf.froz2 (h : Rf w W g1 g2 g3 a1 a2 a3 vL LL vS SS vT LT) (j : Nat) : W.frozen? ⟨g2, j, none⟩ = false := blk_frozen h.b2 j

set_option maxHeartbeats 8000000 in
set_option maxRecDepth 100000 in
theorem ref_walk (a0 a1 a2 a3 : Int) (A4 : Option Addr) (c4 : Nat) (L : List S31) (A5 : Option Addr) (c5 : Nat) (S : List S34) (w : World) (HL : Aside0 (Kd.C k31 w A4 L.length L)) (KL : Aside0 (L.length ≤ c4)) (HS_ : Aside0 (Kd.C k34 w A5 S.length S)) (KS : Aside0 (S.length ≤ c5)) (HK : Aside0 (Ok 1000 L S))
    (M4 M5 : List ByteArray) (HM4 : Aside0 (M4 = L.map (·.f0))) (HM5 : Aside0 (M5 = S.map (·.f0))) (L1 L2 : List S31) (S1 S2 : List S34) (HL1 : Aside0 (L1 = if cnt exS M4 = 0 then L ++ [exL] else L)) (HL2 : Aside0 (L2 = if cnt caS M4 = 0 then L1 ++ [caL] else L1)) (HS1_ : Aside0 (S1 = if cnt exS M5 = 0 then S ++ [exC] else S)) (HS2_ : Aside0 (S2 = if cnt caS M5 = 0 then S1 ++ [caC] else S1)) (HN : Aside0 (L1.length < 2000 ∧ S1.length < 2000)) :
    Calls Try.prog 16 #[.agg #[.int .i64 a0, .int .i64 a1, .int .i64 a2, .int .i64 a3, .slice A4 L.length c4, .slice A5 S.length c5]] w fun e w' => ∃ v4 v5 : Value, e = .returned (.agg #[.int .i64 (orV a0 100), .int .i64 (orV a1 10), .int .i64 (orV a2 100), .int .i64 (orV a3 10), v4, v5]) ∧ Kd.R k31 31 w' w.heap.size (fun _ => True) v4 L2 ∧ Kd.R k34 34 w' w.heap.size (fun _ => True) v5 S2 ∧ Below w.heap.size w w' := by
  go_enter Try.func16, Try.ntmps16
  go_wp2_with (first | ((with_reducible refine gate_dst (N := 1) rfl ?_); refine box_event ?hg (N := 1) ?hd (cs := #[.int .i64 a0, .int .i64 a1, .int .i64 a2, .int .i64 a3, .slice A4 L.length c4, .slice A5 S.length c5]) (t := 25) ?hr ?_; (case hd => rfl); (case hg => rfl); (case hr => first | (go_simp; done) | (go_simp; rfl)); intro g1 hg w1 hbox hb; have B1 := Aside0.mk hbox; have HB1 := Aside0.mk hb; have E1 := Aside0.mk (show w.heap.size ≤ g1 by rw [hg]; exact Nat.le_refl _); clear hb hbox hg) | ((with_reducible refine gate_dst (N := 2) rfl ?_); refine box_event ?hg (N := 2) ?hd (cs := #[.int .i64 0, .int .i64 0, .int .i64 0, .int .i64 0, .slice none 0 0, .slice none 0 0]) (t := 25) ?hr ?_; (case hd => rfl); (case hg => rfl); (case hr => first | (go_simp; done) | (go_simp; rfl)); intro g2 hg w2 hbox hb; have B2 := Aside0.mk hbox; have HB2 := Aside0.mk (below_step HB1.out hb); have E2 := Aside0.mk (show w.heap.size ≤ g2 by rw [hg]; exact HB1.out.size); have N12 := Aside0.mk (show g1 ≠ g2 by rw [hg]; exact Nat.ne_of_lt (blk_lt B1.out)); replace B1 := Aside0.mk (blk_below B1.out hb); clear hb hbox hg HB1; have h1_0 : w2.cell? ⟨g1, 0, none⟩ = some (.int .i64 a0) := (blk_cell B1.out 0).trans rfl; have h1_1 : w2.cell? ⟨g1, 1, none⟩ = some (.int .i64 a1) := (blk_cell B1.out 1).trans rfl; have h1_2 : w2.cell? ⟨g1, 2, none⟩ = some (.int .i64 a2) := (blk_cell B1.out 2).trans rfl; have h1_3 : w2.cell? ⟨g1, 3, none⟩ = some (.int .i64 a3) := (blk_cell B1.out 3).trans rfl; have h1_4 : w2.cell? ⟨g1, 4, none⟩ = some (.slice A4 L.length c4) := (blk_cell B1.out 4).trans rfl; have h1_5 : w2.cell? ⟨g1, 5, none⟩ = some (.slice A5 S.length c5) := (blk_cell B1.out 5).trans rfl))
  refine (copy_any a0 a1 a2 a3 A4 c4 L A5 c5 S _ (Kd.C_below HL.out HB2.out) KL.out (Kd.C_below HS_.out HB2.out) KS.out HK.out).mono ?_
  rintro e w3 ⟨v4, v5, rfl, r4, r5, hb⟩
  obtain ⟨Ax, cx, ex⟩ := Kd.R_slice r4
  subst ex
  obtain ⟨Ay, cy, ey⟩ := Kd.R_slice r5
  subst ey
  have HR4 := Aside0.mk (Kd.R_lower r4 HB2.out.size)
  have HR5 := Aside0.mk (Kd.R_lower r5 HB2.out.size)
  have HB3 := Aside0.mk (below_step HB2.out hb)
  replace B1 := Aside0.mk (blk_below B1.out hb)
  replace B2 := Aside0.mk (blk_below B2.out hb)
  clear r4 r5 hb HB2 h1_0 h1_1 h1_2 h1_3 h1_4 h1_5
  go_upto_if 9 with (first | ((with_reducible refine gate_dst (N := 7) rfl ?_); refine new_world ?_; intro W1 hbox hb; have HR : Aside0 (Rf w W1 g1 g2 w3.heap.size #[.int .i64 a0, .int .i64 a1, .int .i64 a2, .int .i64 a3, .slice A4 L.length c4, .slice A5 S.length c5] #[.int .i64 0, .int .i64 0, .int .i64 0, .int .i64 0, .slice none 0 0, .slice none 0 0] #[.int .i64 a0, .int .i64 a1, .int .i64 a2, .int .i64 a3, .slice Ax L.length cx, .slice Ay S.length cy] (.slice Ax L.length cx) L (.slice Ay S.length cy) S (.slice none 0 0) []) := ⟨⟨blk_below B1.out hb, blk_below B2.out hb, hbox, Kd.R_below HR4.out hb, Kd.R_below HR5.out hb, Kd.R_nil _ _ _ _ _, below_step HB3.out hb, HB3.out.size, Nat.ne_of_lt (blk_lt B1.out), Nat.ne_of_lt (blk_lt B2.out)⟩⟩; clear hb hbox B1 B2 HR4 HR5 HB3; have hc30 : W1.cell? ⟨w3.heap.size, 0, none⟩ = some (.int .i64 a0) := (HR.out.cell3 0).trans rfl))
  go_cut [] (fun wc => Rf w wc g1 g2 w3.heap.size #[.int .i64 a0, .int .i64 a1, .int .i64 a2, .int .i64 a3, .slice A4 L.length c4, .slice A5 S.length c5] #[.int .i64 0, .int .i64 0, .int .i64 0, .int .i64 0, .slice none 0 0, .slice none 0 0] #[.int .i64 (orV a0 100), .int .i64 a1, .int .i64 a2, .int .i64 a3, .slice Ax L.length cx, .slice Ay S.length cy] (.slice Ax L.length cx) L (.slice Ay S.length cy) S (.slice none 0 0) [])
  case first =>
    by_cases hc : a0 = 0
    · have hb : (a0 == 0) = true := beq_iff_eq.mpr hc
      have Hc := Aside0.mk hc
      clear hc
      first | rw [hb] | skip
      have hf3 := HR.out.froz3 0
      go_wp2
      go_meet
      case rel =>
        have e : orV a0 100 = 100 := by unfold orV; rw [if_pos Hc.out]
        rw [e]
        exact HR.out.set3 0 _
    · have hb : (a0 == 0) = false := beq_eq_false_iff_ne.mpr hc
      have Hc := Aside0.mk hc
      clear hc
      first | rw [hb] | skip
      go_wp2
      go_meet
      case rel =>
        have e : orV a0 100 = a0 := by unfold orV; rw [if_neg Hc.out]
        rw [e]
        exact HR.out
  case rest =>
    clear HR hc30
    have HR := Aside0.mk hcut
    clear hcut
    have hc30 : wc.cell? ⟨w3.heap.size, 1, none⟩ = some (.int .i64 a1) := (HR.out.cell3 1).trans rfl
    go_upto_if 13 with (fail)
    go_cut [] (fun wc => Rf w wc g1 g2 w3.heap.size #[.int .i64 a0, .int .i64 a1, .int .i64 a2, .int .i64 a3, .slice A4 L.length c4, .slice A5 S.length c5] #[.int .i64 0, .int .i64 0, .int .i64 0, .int .i64 0, .slice none 0 0, .slice none 0 0] #[.int .i64 (orV a0 100), .int .i64 (orV a1 10), .int .i64 a2, .int .i64 a3, .slice Ax L.length cx, .slice Ay S.length cy] (.slice Ax L.length cx) L (.slice Ay S.length cy) S (.slice none 0 0) [])
    case first =>
      by_cases hc : a1 = 0
      · have hb : (a1 == 0) = true := beq_iff_eq.mpr hc
        have Hc := Aside0.mk hc
        clear hc
        first | rw [hb] | skip
        have hf3 := HR.out.froz3 1
        go_wp2
        go_meet
        case rel =>
          have e : orV a1 10 = 10 := by unfold orV; rw [if_pos Hc.out]
          rw [e]
          exact HR.out.set3 1 _
      · have hb : (a1 == 0) = false := beq_eq_false_iff_ne.mpr hc
        have Hc := Aside0.mk hc
        clear hc
        first | rw [hb] | skip
        go_wp2
        go_meet
        case rel =>
          have e : orV a1 10 = a1 := by unfold orV; rw [if_neg Hc.out]
          rw [e]
          exact HR.out
    case rest =>
      clear HR hc30
      have HR := Aside0.mk hcut
      clear hcut
      have hc30 : wc.cell? ⟨w3.heap.size, 2, none⟩ = some (.int .i64 a2) := (HR.out.cell3 2).trans rfl
      go_upto_if 17 with (fail)
      go_cut [] (fun wc => Rf w wc g1 g2 w3.heap.size #[.int .i64 a0, .int .i64 a1, .int .i64 a2, .int .i64 a3, .slice A4 L.length c4, .slice A5 S.length c5] #[.int .i64 0, .int .i64 0, .int .i64 0, .int .i64 0, .slice none 0 0, .slice none 0 0] #[.int .i64 (orV a0 100), .int .i64 (orV a1 10), .int .i64 (orV a2 100), .int .i64 a3, .slice Ax L.length cx, .slice Ay S.length cy] (.slice Ax L.length cx) L (.slice Ay S.length cy) S (.slice none 0 0) [])
      case first =>
        by_cases hc : a2 = 0
        · have hb : (a2 == 0) = true := beq_iff_eq.mpr hc
          have Hc := Aside0.mk hc
          clear hc
          first | rw [hb] | skip
          have hf3 := HR.out.froz3 2
          go_wp2
          go_meet
          case rel =>
            have e : orV a2 100 = 100 := by unfold orV; rw [if_pos Hc.out]
            rw [e]
            exact HR.out.set3 2 _
        · have hb : (a2 == 0) = false := beq_eq_false_iff_ne.mpr hc
          have Hc := Aside0.mk hc
          clear hc
          first | rw [hb] | skip
          go_wp2
          go_meet
          case rel =>
            have e : orV a2 100 = a2 := by unfold orV; rw [if_neg Hc.out]
            rw [e]
            exact HR.out
      case rest =>
        clear HR hc30
        have HR := Aside0.mk hcut
        clear hcut
        have hc30 : wc.cell? ⟨w3.heap.size, 3, none⟩ = some (.int .i64 a3) := (HR.out.cell3 3).trans rfl
        go_upto_if 21 with (fail)
        go_cut [] (fun wc => Rf w wc g1 g2 w3.heap.size #[.int .i64 a0, .int .i64 a1, .int .i64 a2, .int .i64 a3, .slice A4 L.length c4, .slice A5 S.length c5] #[.int .i64 0, .int .i64 0, .int .i64 0, .int .i64 0, .slice none 0 0, .slice none 0 0] #[.int .i64 (orV a0 100), .int .i64 (orV a1 10), .int .i64 (orV a2 100), .int .i64 (orV a3 10), .slice Ax L.length cx, .slice Ay S.length cy] (.slice Ax L.length cx) L (.slice Ay S.length cy) S (.slice none 0 0) [])
        case first =>
          by_cases hc : a3 = 0
          · have hb : (a3 == 0) = true := beq_iff_eq.mpr hc
            have Hc := Aside0.mk hc
            clear hc
            first | rw [hb] | skip
            have hf3 := HR.out.froz3 3
            go_wp2
            go_meet
            case rel =>
              have e : orV a3 10 = 10 := by unfold orV; rw [if_pos Hc.out]
              rw [e]
              exact HR.out.set3 3 _
          · have hb : (a3 == 0) = false := beq_eq_false_iff_ne.mpr hc
            have Hc := Aside0.mk hc
            clear hc
            first | rw [hb] | skip
            go_wp2
            go_meet
            case rel =>
              have e : orV a3 10 = a3 := by unfold orV; rw [if_neg Hc.out]
              rw [e]
              exact HR.out
        case rest =>
          clear HR hc30
          have HR := Aside0.mk hcut
          clear hcut
          have h1_0 : wc.cell? ⟨g1, 0, none⟩ = some (.int .i64 a0) := (blk_cell HR.out.b1 0).trans rfl
          have h1_1 : wc.cell? ⟨g1, 1, none⟩ = some (.int .i64 a1) := (blk_cell HR.out.b1 1).trans rfl
          have h1_2 : wc.cell? ⟨g1, 2, none⟩ = some (.int .i64 a2) := (blk_cell HR.out.b1 2).trans rfl
          have h1_3 : wc.cell? ⟨g1, 3, none⟩ = some (.int .i64 a3) := (blk_cell HR.out.b1 3).trans rfl
          have h1_4 : wc.cell? ⟨g1, 4, none⟩ = some (.slice A4 L.length c4) := (blk_cell HR.out.b1 4).trans rfl
          have h1_5 : wc.cell? ⟨g1, 5, none⟩ = some (.slice A5 S.length c5) := (blk_cell HR.out.b1 5).trans rfl
          go_wp2_with (first | ((with_reducible refine gate_dst (N := 23) rfl ?_); refine Kd.R_lit Kd.string (w0 := w) w.heap.size 9 ?hg (N := 23) ?hd (xs := [⟨#[42]⟩]) (inner := [.string ⟨#[42]⟩]) (ok := fun _ => True) (okp := fun _ => True) ?hr ?hp (fun _ hk => hk) trivial HR.out.hB HR.out.hB.size (by simp) ?_; (case hd => rfl); (case hg => rfl); (case hr => first | (go_simp; done) | (go_simp; rfl)); (case hp => exact (Reps.one (show Kd.M Kd.string _ _ _ (⟨#[42]⟩ : ByteArray) [.string ⟨#[42]⟩] from rfl) (Reps.none _ _))); intro vT w5 ho hb hg_ hnew_; have HRa := Aside0.mk ((HR.out.below (Below.grown (Below.refl _ _) hg_ (Nat.le_refl _) (fun k hk => by cases hk))).star ho); clear hg_ hnew_ hb ho HR h1_0 h1_1 h1_2 h1_3 h1_4 h1_5; obtain ⟨At, ct, et⟩ := Kd.R_slice HRa.out.hT; replace et : vT = .slice At 1 ct := et; subst et; have HR := HRa; clear HRa; have h1_0 : w5.cell? ⟨g1, 0, none⟩ = some (.int .i64 a0) := (blk_cell HR.out.b1 0).trans rfl; have h1_1 : w5.cell? ⟨g1, 1, none⟩ = some (.int .i64 a1) := (blk_cell HR.out.b1 1).trans rfl; have h1_2 : w5.cell? ⟨g1, 2, none⟩ = some (.int .i64 a2) := (blk_cell HR.out.b1 2).trans rfl; have h1_3 : w5.cell? ⟨g1, 3, none⟩ = some (.int .i64 a3) := (blk_cell HR.out.b1 3).trans rfl; have h1_4 : w5.cell? ⟨g1, 4, none⟩ = some (.slice A4 L.length c4) := (blk_cell HR.out.b1 4).trans rfl; have h1_5 : w5.cell? ⟨g1, 5, none⟩ = some (.slice A5 S.length c5) := (blk_cell HR.out.b1 5).trans rfl))
          have hq := hasLevel_any a0 a1 a2 a3 A4 c4 L A5 c5 S exS
          rw [← HM4.out] at hq
          refine (hq _ (Kd.C_below HL.out HR.out.hB) KL.out (Kd.C_below HS_.out HR.out.hB) KS.out HK.out).mono ?_
          clear hq
          rintro e w' ⟨rfl, hb⟩
          have HRb := Aside0.mk (HR.out.below hb)
          clear hb HR h1_0 h1_1 h1_2 h1_3 h1_4 h1_5
          have HR := HRb
          clear HRb
          go_upto_if 26 with (fail)
          go_cut [] (fun wc => ∃ vL : Value, Rf w wc g1 g2 w3.heap.size #[.int .i64 a0, .int .i64 a1, .int .i64 a2, .int .i64 a3, .slice A4 L.length c4, .slice A5 S.length c5] #[.int .i64 0, .int .i64 0, .int .i64 0, .int .i64 0, .slice none 0 0, .slice none 0 0] #[.int .i64 (orV a0 100), .int .i64 (orV a1 10), .int .i64 (orV a2 100), .int .i64 (orV a3 10), vL, .slice Ay S.length cy] vL L1 (.slice Ay S.length cy) S (.slice At 1 ct) [⟨#[42]⟩])
          case first =>
            by_cases hc : cnt exS M4 = 0
            · have hb : hasName exS M4 = false := by cases hq : hasName exS M4 with | false => rfl | true => exact absurd hc ((hasName_cnt _ _).mp hq)
              have Hc := Aside0.mk hc
              clear hc
              rw [hb]
              have hc34 := (HR.out.cell3 4).trans (rfl : _ = some (Value.slice Ax L.length cx))
              have hf34 := HR.out.froz3 4
              go_wp2_with (first | ((with_reducible refine gate_builtin (b := .append) (xs := #[.tmp 28, .tmp 30]) rfl ?_); at_builtin; refine Kd.R_append k31 (w0 := w) w.heap.size rfl (.tmp 28) (.tmp 30) 22 31 (.agg #[(.string ⟨#[]⟩), (.int .i64 0), (.int .i64 0), (.int .i64 0), (.int .i64 0), (.int .i64 0), (.int .i64 0), (.int .i64 0), (.int .i64 0), (.int .i64 0)]) 88 rfl Try.underlying22 info31 rfl (by decide) (by omega) (Value.slice Ax L.length cx) L exL [.string ⟨#[101, 120, 101, 109, 112, 116]⟩, .int .i64 1, .int .i64 0, .int .i64 0, .int .i64 0, .int .i64 0, .int .i64 0, .int .i64 0, .int .i64 0, .int .i64 0] (fun _ => True) (fun _ => False) rfl (by first | (go_simp; done) | (go_simp; rfl)) ?aP (fun _ hk => hk.elim) (fun _ _ => trivial) ?aO ?aB ?aS ?aL ?_; (case aP => exact k31_mkM _ _ _ exL); (case aO => exact HR.out.hL); (case aB => exact HR.out.hB); (case aS => exact HR.out.hB.size); (case aL => have := HK.out.l; omega); intro v1 W3 ho hb hg hat; obtain ⟨A9, c9, e9⟩ := Kd.R_slice ho; rw [show (L ++ [exL]).length = (L).length + 1 by simp] at e9; subst e9; have HR3 := Aside0.mk (HR.out.addL ho hb hg); clear ho hb hg hat hc34 hf34; have hc34 := (HR3.out.cell3 4).trans (rfl : _ = some (Value.slice Ax L.length cx)); have hf34 := HR3.out.froz3 4))
              go_meet
              case rel => exact ⟨_, by rw [HL1.out, if_pos Hc.out]; exact HR3.out.set3 4 _⟩
            · have hb : hasName exS M4 = true := (hasName_cnt _ _).mpr hc
              have Hc := Aside0.mk hc
              clear hc
              rw [hb]
              go_wp2
              go_meet
              case rel => exact ⟨_, by rw [HL1.out, if_neg Hc.out]; exact HR.out⟩
          case rest =>
            clear HR
            obtain ⟨vL, hst⟩ := hcut
            have HR := Aside0.mk hst
            clear hst
            have h1_0 : wc.cell? ⟨g1, 0, none⟩ = some (.int .i64 a0) := (blk_cell HR.out.b1 0).trans rfl
            have h1_1 : wc.cell? ⟨g1, 1, none⟩ = some (.int .i64 a1) := (blk_cell HR.out.b1 1).trans rfl
            have h1_2 : wc.cell? ⟨g1, 2, none⟩ = some (.int .i64 a2) := (blk_cell HR.out.b1 2).trans rfl
            have h1_3 : wc.cell? ⟨g1, 3, none⟩ = some (.int .i64 a3) := (blk_cell HR.out.b1 3).trans rfl
            have h1_4 : wc.cell? ⟨g1, 4, none⟩ = some (.slice A4 L.length c4) := (blk_cell HR.out.b1 4).trans rfl
            have h1_5 : wc.cell? ⟨g1, 5, none⟩ = some (.slice A5 S.length c5) := (blk_cell HR.out.b1 5).trans rfl
            go_wp2_with fail
            have hq := hasLevel_any a0 a1 a2 a3 A4 c4 L A5 c5 S caS
            rw [← HM4.out] at hq
            refine (hq _ (Kd.C_below HL.out HR.out.hB) KL.out (Kd.C_below HS_.out HR.out.hB) KS.out HK.out).mono ?_
            clear hq
            rintro e w' ⟨rfl, hb⟩
            have HRb := Aside0.mk (HR.out.below hb)
            clear hb HR h1_0 h1_1 h1_2 h1_3 h1_4 h1_5
            have HR := HRb
            clear HRb
            go_upto_if 35 with (fail)
            go_cut [] (fun wc => ∃ vL : Value, Rf w wc g1 g2 w3.heap.size #[.int .i64 a0, .int .i64 a1, .int .i64 a2, .int .i64 a3, .slice A4 L.length c4, .slice A5 S.length c5] #[.int .i64 0, .int .i64 0, .int .i64 0, .int .i64 0, .slice none 0 0, .slice none 0 0] #[.int .i64 (orV a0 100), .int .i64 (orV a1 10), .int .i64 (orV a2 100), .int .i64 (orV a3 10), vL, .slice Ay S.length cy] vL L2 (.slice Ay S.length cy) S (.slice At 1 ct) [⟨#[42]⟩])
            case first =>
              by_cases hc : cnt caS M4 = 0
              · have hb : hasName caS M4 = false := by cases hq : hasName caS M4 with | false => rfl | true => exact absurd hc ((hasName_cnt _ _).mp hq)
                have Hc := Aside0.mk hc
                clear hc
                rw [hb]
                have hc34 := (HR.out.cell3 4).trans (rfl : _ = some vL)
                have hf34 := HR.out.froz3 4
                go_wp2_with (first | ((with_reducible refine gate_builtin (b := .append) (xs := #[.tmp 37, .tmp 39]) rfl ?_); at_builtin; refine Kd.R_append k31 (w0 := w) w.heap.size rfl (.tmp 37) (.tmp 39) 22 31 (.agg #[(.string ⟨#[]⟩), (.int .i64 0), (.int .i64 0), (.int .i64 0), (.int .i64 0), (.int .i64 0), (.int .i64 0), (.int .i64 0), (.int .i64 0), (.int .i64 0)]) 88 rfl Try.underlying22 info31 rfl (by decide) (by omega) vL L1 caL [.string ⟨#[99, 97, 116, 99, 104, 45, 97, 108, 108]⟩, .int .i64 2, .int .i64 5, .int .i64 0, .int .i64 (-1), .int .i64 0, .int .i64 0, .int .i64 0, .int .i64 0, .int .i64 0] (fun _ => True) (fun _ => False) rfl (by first | (go_simp; done) | (go_simp; rfl)) ?aP (fun _ hk => hk.elim) (fun _ _ => trivial) ?aO ?aB ?aS ?aL ?_; (case aP => exact k31_mkM _ _ _ caL); (case aO => exact HR.out.hL); (case aB => exact HR.out.hB); (case aS => exact HR.out.hB.size); (case aL => have := HN.out.1; omega); intro v1 W3 ho hb hg hat; obtain ⟨A9, c9, e9⟩ := Kd.R_slice ho; rw [show (L1 ++ [caL]).length = (L1).length + 1 by simp] at e9; subst e9; have HR3 := Aside0.mk (HR.out.addL ho hb hg); clear ho hb hg hat hc34 hf34; have hc34 := (HR3.out.cell3 4).trans (rfl : _ = some vL); have hf34 := HR3.out.froz3 4))
                go_meet
                case rel => exact ⟨_, by rw [HL2.out, if_pos Hc.out]; exact HR3.out.set3 4 _⟩
              · have hb : hasName caS M4 = true := (hasName_cnt _ _).mpr hc
                have Hc := Aside0.mk hc
                clear hc
                rw [hb]
                go_wp2
                go_meet
                case rel => exact ⟨_, by rw [HL2.out, if_neg Hc.out]; exact HR.out⟩
            case rest =>
              clear HR
              obtain ⟨vL, hst⟩ := hcut
              have HR := Aside0.mk hst
              clear hst
              have h1_0 : wc.cell? ⟨g1, 0, none⟩ = some (.int .i64 a0) := (blk_cell HR.out.b1 0).trans rfl
              have h1_1 : wc.cell? ⟨g1, 1, none⟩ = some (.int .i64 a1) := (blk_cell HR.out.b1 1).trans rfl
              have h1_2 : wc.cell? ⟨g1, 2, none⟩ = some (.int .i64 a2) := (blk_cell HR.out.b1 2).trans rfl
              have h1_3 : wc.cell? ⟨g1, 3, none⟩ = some (.int .i64 a3) := (blk_cell HR.out.b1 3).trans rfl
              have h1_4 : wc.cell? ⟨g1, 4, none⟩ = some (.slice A4 L.length c4) := (blk_cell HR.out.b1 4).trans rfl
              have h1_5 : wc.cell? ⟨g1, 5, none⟩ = some (.slice A5 S.length c5) := (blk_cell HR.out.b1 5).trans rfl
              go_wp2_with fail
              have hq := hasSchema_any a0 a1 a2 a3 A4 c4 L A5 c5 S exS
              rw [← HM5.out] at hq
              refine (hq _ (Kd.C_below HL.out HR.out.hB) KL.out (Kd.C_below HS_.out HR.out.hB) KS.out HK.out).mono ?_
              clear hq
              rintro e w' ⟨rfl, hb⟩
              have HRb := Aside0.mk (HR.out.below hb)
              clear hb HR h1_0 h1_1 h1_2 h1_3 h1_4 h1_5
              have HR := HRb
              clear HRb
              go_upto_if 44 with (fail)
              go_cut [] (fun wc => ∃ vS : Value, Rf w wc g1 g2 w3.heap.size #[.int .i64 a0, .int .i64 a1, .int .i64 a2, .int .i64 a3, .slice A4 L.length c4, .slice A5 S.length c5] #[.int .i64 0, .int .i64 0, .int .i64 0, .int .i64 0, .slice none 0 0, .slice none 0 0] #[.int .i64 (orV a0 100), .int .i64 (orV a1 10), .int .i64 (orV a2 100), .int .i64 (orV a3 10), vL, vS] vL L2 vS S1 (.slice At 1 ct) [⟨#[42]⟩])
              case first =>
                by_cases hc : cnt exS M5 = 0
                · have hb : hasName exS M5 = false := by cases hq : hasName exS M5 with | false => rfl | true => exact absurd hc ((hasName_cnt _ _).mp hq)
                  have Hc := Aside0.mk hc
                  clear hc
                  rw [hb]
                  have hc35 := (HR.out.cell3 5).trans (rfl : _ = some (Value.slice Ay S.length cy))
                  go_wp2_with (first | ((with_reducible refine gate_dst (N := 47) rfl ?_); refine Kd.R_lit Kd.string (w0 := w) w.heap.size 9 ?hg (N := 47) ?hd (xs := [⟨#[115, 121, 115, 116, 101, 109, 58, 109, 97, 115, 116, 101, 114, 115]⟩]) (inner := [.string ⟨#[115, 121, 115, 116, 101, 109, 58, 109, 97, 115, 116, 101, 114, 115]⟩]) (ok := fun _ => True) (okp := fun _ => True) ?hr ?hp (fun _ hk => hk) trivial HR.out.hB HR.out.hB.size (by simp) ?_; (case hd => rfl); (case hg => rfl); (case hr => first | (go_simp; done) | (go_simp; rfl)); (case hp => exact (Reps.one (show Kd.M Kd.string _ _ _ (⟨#[115, 121, 115, 116, 101, 109, 58, 109, 97, 115, 116, 101, 114, 115]⟩ : ByteArray) [.string ⟨#[115, 121, 115, 116, 101, 109, 58, 109, 97, 115, 116, 101, 114, 115]⟩] from rfl) (Reps.none _ _))); intro v1 w7 ho hb hg_ hnew_; have HRx := Aside0.mk (HR.out.below (Below.grown (Below.refl _ _) hg_ (Nat.le_refl _) (fun k hk => by cases hk))); have HO1 := Aside0.mk ho; clear hg_ hnew_ hb ho HR hc35; have HR := HRx; clear HRx; obtain ⟨A9, c9, e9⟩ := Kd.R_slice HO1.out; replace e9 : v1 = .slice A9 1 c9 := e9; subst e9) | ((with_reducible refine gate_dst (N := 52) rfl ?_); refine Kd.R_lit k37 (w0 := w) w.heap.size 37 ?hg (N := 52) ?hd (xs := [exR]) (inner := [(.slice none 0 0), (.slice A9 1 c9), (.slice At 1 ct), (.slice At 1 ct), (.slice At 1 ct)]) (ok := fun _ => True) (okp := fun _ => True) ?hr ?hp (fun _ hk => hk) trivial HR.out.hB HR.out.hB.size (by simp) ?_; (case hd => rfl); (case hg => rfl); (case hr => first | (go_simp; done) | (go_simp; rfl)); (case hp => exact Reps.c5 (k37_mkM _ _ _ exR (Kd.R_nil _ _ _ _ _) HO1.out HR.out.hT HR.out.hT HR.out.hT) (Reps.none _ _)); intro v5 w8 ho hb hg_ hnew_; have HRy := Aside0.mk (HR.out.below (Below.grown (Below.refl _ _) hg_ (Nat.le_refl _) (fun k hk => by cases hk))); have HOr := Aside0.mk ho; clear hg_ hnew_ hb ho HR; obtain ⟨A8, c8, e8⟩ := Kd.R_slice HOr.out; replace e8 : v5 = .slice A8 1 c8 := e8; subst e8) | ((with_reducible refine gate_builtin (b := .append) (xs := #[.tmp 46, .tmp 54]) rfl ?_); at_builtin; refine Kd.R_append k34 (w0 := w) w.heap.size rfl (.tmp 46) (.tmp 54) 23 34 (.agg #[(.string ⟨#[]⟩), (.string ⟨#[]⟩), (.int .i64 0), (.int .i64 0), (.slice none 0 0)]) 72 rfl Try.underlying23 info34 rfl (by decide) (by omega) (Value.slice Ay S.length cy) S exC [.string ⟨#[101, 120, 101, 109, 112, 116]⟩, .string ⟨#[101, 120, 101, 109, 112, 116]⟩, .int .i64 1, .int .i64 0, .slice A8 1 c8] (fun _ => True) (fun k_ => True ∧ some k_ ≠ ((Value.slice Ay S.length cy) : Value).ownBlock) rfl (by first | (go_simp; done) | (go_simp; rfl)) ?aP (fun _ hk => hk) (fun _ _ => trivial) ?aO ?aB ?aS ?aL ?_; (case aP => exact k34_mkM _ _ _ exC (Kd.R_apart' HOr.out (Kd.R_typed HRy.out.hS) (by decide))); (case aO => exact HRy.out.hS); (case aB => exact HRy.out.hB); (case aS => exact HRy.out.hB.size); (case aL => have := HK.out.s; omega); intro v6 W7 ho hb hg hat; obtain ⟨A6, c6, e6⟩ := Kd.R_slice ho; rw [show (S ++ [exC]).length = (S).length + 1 by simp] at e6; subst e6; have HRz := Aside0.mk (HRy.out.addS ho hb hg); clear ho hb hg hat; have hc35 := (HRz.out.cell3 5).trans (rfl : _ = some (Value.slice Ay S.length cy)); have hf35 := HRz.out.froz3 5))
                  go_meet
                  case rel => exact ⟨_, by rw [HS1_.out, if_pos Hc.out]; exact HRz.out.set3 5 _⟩
                · have hb : hasName exS M5 = true := (hasName_cnt _ _).mpr hc
                  have Hc := Aside0.mk hc
                  clear hc
                  rw [hb]
                  go_wp2
                  go_meet
                  case rel => exact ⟨_, by rw [HS1_.out, if_neg Hc.out]; exact HR.out⟩
              case rest =>
                clear HR
                obtain ⟨vS, hst⟩ := hcut
                have HR := Aside0.mk hst
                clear hst
                have h1_0 : wc.cell? ⟨g1, 0, none⟩ = some (.int .i64 a0) := (blk_cell HR.out.b1 0).trans rfl
                have h1_1 : wc.cell? ⟨g1, 1, none⟩ = some (.int .i64 a1) := (blk_cell HR.out.b1 1).trans rfl
                have h1_2 : wc.cell? ⟨g1, 2, none⟩ = some (.int .i64 a2) := (blk_cell HR.out.b1 2).trans rfl
                have h1_3 : wc.cell? ⟨g1, 3, none⟩ = some (.int .i64 a3) := (blk_cell HR.out.b1 3).trans rfl
                have h1_4 : wc.cell? ⟨g1, 4, none⟩ = some (.slice A4 L.length c4) := (blk_cell HR.out.b1 4).trans rfl
                have h1_5 : wc.cell? ⟨g1, 5, none⟩ = some (.slice A5 S.length c5) := (blk_cell HR.out.b1 5).trans rfl
                go_wp2_with fail
                have hq := hasSchema_any a0 a1 a2 a3 A4 c4 L A5 c5 S caS
                rw [← HM5.out] at hq
                refine (hq _ (Kd.C_below HL.out HR.out.hB) KL.out (Kd.C_below HS_.out HR.out.hB) KS.out HK.out).mono ?_
                clear hq
                rintro e w' ⟨rfl, hb⟩
                have HRb := Aside0.mk (HR.out.below hb)
                clear hb HR h1_0 h1_1 h1_2 h1_3 h1_4 h1_5
                have HR := HRb
                clear HRb
                go_upto_if 59 with (fail)
                go_cut [] (fun wc => ∃ vS : Value, Rf w wc g1 g2 w3.heap.size #[.int .i64 a0, .int .i64 a1, .int .i64 a2, .int .i64 a3, .slice A4 L.length c4, .slice A5 S.length c5] #[.int .i64 0, .int .i64 0, .int .i64 0, .int .i64 0, .slice none 0 0, .slice none 0 0] #[.int .i64 (orV a0 100), .int .i64 (orV a1 10), .int .i64 (orV a2 100), .int .i64 (orV a3 10), vL, vS] vL L2 vS S2 (.slice At 1 ct) [⟨#[42]⟩])
                case first =>
                  by_cases hc : cnt caS M5 = 0
                  · have hb : hasName caS M5 = false := by cases hq : hasName caS M5 with | false => rfl | true => exact absurd hc ((hasName_cnt _ _).mp hq)
                    have Hc := Aside0.mk hc
                    clear hc
                    rw [hb]
                    have hc35 := (HR.out.cell3 5).trans (rfl : _ = some vS)
                    go_wp2_with (first | ((with_reducible refine gate_dst (N := 67) rfl ?_); refine Kd.R_lit k37 (w0 := w) w.heap.size 37 ?hg (N := 67) ?hd (xs := [caR]) (inner := [(.slice At 1 ct), (.slice none 0 0), (.slice At 1 ct), (.slice At 1 ct), (.slice At 1 ct)]) (ok := fun _ => True) (okp := fun _ => True) ?hr ?hp (fun _ hk => hk) trivial HR.out.hB HR.out.hB.size (by simp) ?_; (case hd => rfl); (case hg => rfl); (case hr => first | (go_simp; done) | (go_simp; rfl)); (case hp => exact Reps.c5 (k37_mkM _ _ _ caR HR.out.hT (Kd.R_nil _ _ _ _ _) HR.out.hT HR.out.hT HR.out.hT) (Reps.none _ _)); intro v5 w8 ho hb hg_ hnew_; have HRy := Aside0.mk (HR.out.below (Below.grown (Below.refl _ _) hg_ (Nat.le_refl _) (fun k hk => by cases hk))); have HOr := Aside0.mk ho; clear hg_ hnew_ hb ho HR; obtain ⟨A8, c8, e8⟩ := Kd.R_slice HOr.out; replace e8 : v5 = .slice A8 1 c8 := e8; subst e8) | ((with_reducible refine gate_builtin (b := .append) (xs := #[.tmp 61, .tmp 69]) rfl ?_); at_builtin; refine Kd.R_append k34 (w0 := w) w.heap.size rfl (.tmp 61) (.tmp 69) 23 34 (.agg #[(.string ⟨#[]⟩), (.string ⟨#[]⟩), (.int .i64 0), (.int .i64 0), (.slice none 0 0)]) 72 rfl Try.underlying23 info34 rfl (by decide) (by omega) vS S1 caC [.string ⟨#[99, 97, 116, 99, 104, 45, 97, 108, 108]⟩, .string ⟨#[99, 97, 116, 99, 104, 45, 97, 108, 108]⟩, .int .i64 10000, .int .i64 1, .slice A8 1 c8] (fun _ => True) (fun k_ => True ∧ some k_ ≠ (vS : Value).ownBlock) rfl (by first | (go_simp; done) | (go_simp; rfl)) ?aP (fun _ hk => hk) (fun _ _ => trivial) ?aO ?aB ?aS ?aL ?_; (case aP => exact k34_mkM _ _ _ caC (Kd.R_apart' HOr.out (Kd.R_typed HRy.out.hS) (by decide))); (case aO => exact HRy.out.hS); (case aB => exact HRy.out.hB); (case aS => exact HRy.out.hB.size); (case aL => have := HN.out.2; omega); intro v6 W7 ho hb hg hat; obtain ⟨A6, c6, e6⟩ := Kd.R_slice ho; rw [show (S1 ++ [caC]).length = (S1).length + 1 by simp] at e6; subst e6; have HRz := Aside0.mk (HRy.out.addS ho hb hg); clear ho hb hg hat; have hc35 := (HRz.out.cell3 5).trans (rfl : _ = some vS); have hf35 := HRz.out.froz3 5))
                    go_meet
                    case rel => exact ⟨_, by rw [HS2_.out, if_pos Hc.out]; exact HRz.out.set3 5 _⟩
                  · have hb : hasName caS M5 = true := (hasName_cnt _ _).mpr hc
                    have Hc := Aside0.mk hc
                    clear hc
                    rw [hb]
                    go_wp2
                    go_meet
                    case rel => exact ⟨_, by rw [HS2_.out, if_neg Hc.out]; exact HR.out⟩
                case rest =>
                  clear HR
                  obtain ⟨vS, hst⟩ := hcut
                  have HR := Aside0.mk hst
                  clear hst
                  have h1_0 : wc.cell? ⟨g1, 0, none⟩ = some (.int .i64 a0) := (blk_cell HR.out.b1 0).trans rfl
                  have h1_1 : wc.cell? ⟨g1, 1, none⟩ = some (.int .i64 a1) := (blk_cell HR.out.b1 1).trans rfl
                  have h1_2 : wc.cell? ⟨g1, 2, none⟩ = some (.int .i64 a2) := (blk_cell HR.out.b1 2).trans rfl
                  have h1_3 : wc.cell? ⟨g1, 3, none⟩ = some (.int .i64 a3) := (blk_cell HR.out.b1 3).trans rfl
                  have h1_4 : wc.cell? ⟨g1, 4, none⟩ = some (.slice A4 L.length c4) := (blk_cell HR.out.b1 4).trans rfl
                  have h1_5 : wc.cell? ⟨g1, 5, none⟩ = some (.slice A5 S.length c5) := (blk_cell HR.out.b1 5).trans rfl
                  clear h1_0 h1_1 h1_2 h1_3 h1_4 h1_5
                  obtain ⟨Af, cf, ef⟩ := Kd.R_slice HR.out.hL
                  subst ef
                  obtain ⟨Ag, cg, eg⟩ := Kd.R_slice HR.out.hS
                  subst eg
                  have hc3_0 : wc.cell? ⟨w3.heap.size, 0, none⟩ = some (.int .i64 (orV a0 100)) := (HR.out.cell3 0).trans rfl
                  have hc2_0 : wc.cell? ⟨g2, 0, none⟩ = some (.int .i64 0) := (blk_cell HR.out.b2 0).trans rfl
                  have hf2_0 := HR.out.froz2 0
                  have hc3_1 : wc.cell? ⟨w3.heap.size, 1, none⟩ = some (.int .i64 (orV a1 10)) := (HR.out.cell3 1).trans rfl
                  have hc2_1 : wc.cell? ⟨g2, 1, none⟩ = some (.int .i64 0) := (blk_cell HR.out.b2 1).trans rfl
                  have hf2_1 := HR.out.froz2 1
                  have hc3_2 : wc.cell? ⟨w3.heap.size, 2, none⟩ = some (.int .i64 (orV a2 100)) := (HR.out.cell3 2).trans rfl
                  have hc2_2 : wc.cell? ⟨g2, 2, none⟩ = some (.int .i64 0) := (blk_cell HR.out.b2 2).trans rfl
                  have hf2_2 := HR.out.froz2 2
                  have hc3_3 : wc.cell? ⟨w3.heap.size, 3, none⟩ = some (.int .i64 (orV a3 10)) := (HR.out.cell3 3).trans rfl
                  have hc2_3 : wc.cell? ⟨g2, 3, none⟩ = some (.int .i64 0) := (blk_cell HR.out.b2 3).trans rfl
                  have hf2_3 := HR.out.froz2 3
                  have hc3_4 : wc.cell? ⟨w3.heap.size, 4, none⟩ = some (.slice Af L2.length cf) := (HR.out.cell3 4).trans rfl
                  have hc2_4 : wc.cell? ⟨g2, 4, none⟩ = some (.slice none 0 0) := (blk_cell HR.out.b2 4).trans rfl
                  have hf2_4 := HR.out.froz2 4
                  have hc3_5 : wc.cell? ⟨w3.heap.size, 5, none⟩ = some (.slice Ag S2.length cg) := (HR.out.cell3 5).trans rfl
                  have hc2_5 : wc.cell? ⟨g2, 5, none⟩ = some (.slice none 0 0) := (blk_cell HR.out.b2 5).trans rfl
                  have hf2_5 := HR.out.froz2 5
                  have hn1 := HR.out.n23
                  have hn2 := Ne.symm HR.out.n23
                  have HF := Aside0.mk ((((((HR.out.set2 N12.out E2.out 0 (.int .i64 (orV a0 100))).set2 N12.out E2.out 1 (.int .i64 (orV a1 10))).set2 N12.out E2.out 2 (.int .i64 (orV a2 100))).set2 N12.out E2.out 3 (.int .i64 (orV a3 10))).set2 N12.out E2.out 4 (.slice Af L2.length cf)).set2 N12.out E2.out 5 (.slice Ag S2.length cg))
                  go_wp2_with fail
                  refine bodyPost_ret (results_cell_row rfl _ _ g2 25 #[.int .i64 (orV a0 100), .int .i64 (orV a1 10), .int .i64 (orV a2 100), .int .i64 (orV a3 10), .slice Af L2.length cf, .slice Ag S2.length cg] (0, 0) _ rfl HF.out.b2 Try.underlying25 rfl (by kernel_rfl)) rfl ?_
                  exact ⟨_, _, rfl, HF.out.hL, HF.out.hS, HF.out.hB⟩
end Go.Proofs.Ytnbnaflhijfamaa.FillRef
