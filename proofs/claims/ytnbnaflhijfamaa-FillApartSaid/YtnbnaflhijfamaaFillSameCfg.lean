/- What the comparison of two configurations says of equal ones: they are the same. -/
import Derived.Test.YtnbnaflhijfamaaFillSame
namespace Go.Proofs.Ytnbnaflhijfamaa.FillSameCfg
open Go.RowKit Go.Proofs.YtnbnaflhijfamaaW.PrintWords Go.Proofs.YtnbnaflhijfamaaW.PrintLast Go.Proofs.YtnbnaflhijfamaaW.PrintMore Go.Proofs.Ytnbnaflhijfamaa.PFillAll Go.Proofs.Ytnbnaflhijfamaa.FillMap Go.Proofs.Ytnbnaflhijfamaa.FillWalk Go.Proofs.Ytnbnaflhijfamaa.FillIs Go.Proofs.Ytnbnaflhijfamaa.FillAwake Go.Proofs.Ytnbnaflhijfamaa.FillSame
set_option linter.unusedVariables false
set_option linter.unusedSimpArgs false
theorem eqA31 (d : Nat) (w : World) (x0 y0 : ByteArray) (x1 y1 : Int) (x2 y2 : Int) (x3 y3 : Int) (x4 y4 : Int) (x5 y5 : Int) (x6 y6 : Int) (x7 y7 : Int) (x8 y8 : Int) (x9 y9 : Int) :
    (Op.equalIn (d + 2) 31 (.agg #[.string x0, .int .i64 x1, .int .i64 x2, .int .i64 x3, .int .i64 x4, .int .i64 x5, .int .i64 x6, .int .i64 x7, .int .i64 x8, .int .i64 x9]) (.agg #[.string y0, .int .i64 y1, .int .i64 y2, .int .i64 y3, .int .i64 y4, .int .i64 y5, .int .i64 y6, .int .i64 y7, .int .i64 y8, .int .i64 y9])).run Try.prog w = .ok (x0.toList == y0.toList && (x1 == y1 && (x2 == y2 && (x3 == y3 && (x4 == y4 && (x5 == y5 && (x6 == y6 && (x7 == y7 && (x8 == y8 && (x9 == y9)))))))))) w := by
  refine eqA_of Try.underlying31 (by kernel_rfl) ?_
  refine eqf_cons (by rfl) (by go_simp; rfl) (by go_simp; rfl) (by go_simp) ?_
  refine eqf_cons (by rfl) (by go_simp; rfl) (by go_simp; rfl) (by go_simp) ?_
  refine eqf_cons (by rfl) (by go_simp; rfl) (by go_simp; rfl) (by go_simp) ?_
  refine eqf_cons (by rfl) (by go_simp; rfl) (by go_simp; rfl) (by go_simp) ?_
  refine eqf_cons (by rfl) (by go_simp; rfl) (by go_simp; rfl) (by go_simp) ?_
  refine eqf_cons (by rfl) (by go_simp; rfl) (by go_simp; rfl) (by go_simp) ?_
  refine eqf_cons (by rfl) (by go_simp; rfl) (by go_simp; rfl) (by go_simp) ?_
  refine eqf_cons (by rfl) (by go_simp; rfl) (by go_simp; rfl) (by go_simp) ?_
  refine eqf_cons (by rfl) (by go_simp; rfl) (by go_simp; rfl) (by go_simp) ?_
  exact eqf_last (by rfl) (by go_simp; rfl) (by go_simp; rfl) (by go_simp)
attribute [local go_sem high] eqA31
def T6 : Bool × List (List Nat × List Nat) := (true, [([], []), ([0], [0]), ([], []), ([1, 2], [1, 2]), ([3], [3]), ([], []), ([5], [5]), ([], []), ([6, 7], [6, 7]), ([8], [8]), ([4, 9], [4, 9])])
def B6 : List Nat := [0, 1, 0, 7, 15, 0, 32, 0, 224, 480, 1023]
theorem tab6 : rtab .any (opsOf Try.f15 6) = T6 := by kernel_rfl
theorem bits6 : waitsOk T6.2 B6 = true := by kernel_rfl
def T11 : Bool × List (List Nat × List Nat) := (true, [([], []), ([0], [0]), ([], []), ([1, 2], [1, 2]), ([3], [3]), ([], []), ([5], [5]), ([], []), ([6, 7], [6, 7]), ([8], [8]), ([], []), ([], []), ([10, 4, 0, 1, 2, 3, 4, 10, 11], [4, 10]), ([11, 9, 12, 0, 1, 2, 3, 4, 5, 6, 7, 8, 9, 10, 11, 12], [9, 11])])
def B11 : List Nat := [0, 1, 0, 7, 15, 0, 32, 0, 224, 480, 0, 0, 3103, 8191]
theorem tab11 : rtab .any (opsOf Try.f15 11) = T11 := by kernel_rfl
theorem bits11 : waitsOk T11.2 B11 = true := by kernel_rfl
structure Bx (w W : World) (g2 g3 : Nat) (a1 a2 : Array Value) : Prop where
  b2 : W.heap[g2]? = some (.cells a1 25 (0, 0))
  b3 : W.heap[g3]? = some (.cells a2 25 (0, 0))
  hB : Below w.heap.size w W
theorem Bx.below {w W W' : World} {g2 g3 : Nat} {a1 a2 : Array Value} (h : Bx w W g2 g3 a1 a2) (hb : Below W.heap.size W W') : Bx w W' g2 g3 a1 a2 := ⟨blk_below h.b2 hb, blk_below h.b3 hb, below_step h.hB hb⟩
set_option maxHeartbeats 4000000 in
set_option maxRecDepth 100000 in
theorem same_cfg (a0_0 a0_1 a0_2 a0_3 : Int) (A0_4 A0_5 A1_4 A1_5 : Option Addr) (c0_4 c0_5 c1_4 c1_5 : Nat) (L : List S31) (S : List S34) (w : World) (H04 : Aside0 (Kd.C k31 w A0_4 L.length L)) (K04 : Aside0 (L.length ≤ c0_4)) (H05 : Aside0 (Kd.C k34 w A0_5 S.length S)) (K05 : Aside0 (S.length ≤ c0_5)) (H14 : Aside0 (Kd.C k31 w A1_4 L.length L)) (K14 : Aside0 (L.length ≤ c1_4)) (H15 : Aside0 (Kd.C k34 w A1_5 S.length S)) (K15 : Aside0 (S.length ≤ c1_5)) (HK : Aside0 (Ok 1000 L S)) :
    Calls Try.prog 15 #[.agg #[.int .i64 a0_0, .int .i64 a0_1, .int .i64 a0_2, .int .i64 a0_3, .slice A0_4 L.length c0_4, .slice A0_5 S.length c0_5], .agg #[.int .i64 a0_0, .int .i64 a0_1, .int .i64 a0_2, .int .i64 a0_3, .slice A1_4 L.length c1_4, .slice A1_5 S.length c1_5]] w fun e w' => e = .returned (.bool true) ∧ Below w.heap.size w w' := by
  go_enter Try.func15, Try.ntmps15
  go_wp2_with (first | ((with_reducible refine gate_dst (N := 2) rfl ?_); refine box_event ?hg (N := 2) ?hd (cs := #[.int .i64 a0_0, .int .i64 a0_1, .int .i64 a0_2, .int .i64 a0_3, .slice A0_4 L.length c0_4, .slice A0_5 S.length c0_5]) (t := 25) ?hr ?_; (case hd => rfl); (case hg => rfl); (case hr => first | (go_simp; done) | (go_simp; rfl)); intro g2 hg w1 hbox hb; have B2 := Aside0.mk hbox; have HB1 := Aside0.mk hb; clear hb hbox hg) | ((with_reducible refine gate_dst (N := 3) rfl ?_); refine box_event ?hg (N := 3) ?hd (cs := #[.int .i64 a0_0, .int .i64 a0_1, .int .i64 a0_2, .int .i64 a0_3, .slice A1_4 L.length c1_4, .slice A1_5 S.length c1_5]) (t := 25) ?hr ?_; (case hd => rfl); (case hg => rfl); (case hr => first | (go_simp; done) | (go_simp; rfl)); intro g3 hg w2 hbox hb; have HX := Aside0.mk (show Bx w w2 g2 g3 #[.int .i64 a0_0, .int .i64 a0_1, .int .i64 a0_2, .int .i64 a0_3, .slice A0_4 L.length c0_4, .slice A0_5 S.length c0_5] #[.int .i64 a0_0, .int .i64 a0_1, .int .i64 a0_2, .int .i64 a0_3, .slice A1_4 L.length c1_4, .slice A1_5 S.length c1_5] from ⟨blk_below B2.out hb, hbox, below_step HB1.out hb⟩); clear hb hbox hg B2 HB1; have h2_0 : w2.cell? ⟨g2, 0, none⟩ = some (.int .i64 a0_0) := (blk_cell HX.out.b2 0).trans rfl; have h2_1 : w2.cell? ⟨g2, 1, none⟩ = some (.int .i64 a0_1) := (blk_cell HX.out.b2 1).trans rfl; have h2_2 : w2.cell? ⟨g2, 2, none⟩ = some (.int .i64 a0_2) := (blk_cell HX.out.b2 2).trans rfl; have h2_3 : w2.cell? ⟨g2, 3, none⟩ = some (.int .i64 a0_3) := (blk_cell HX.out.b2 3).trans rfl; have h2_4 : w2.cell? ⟨g2, 4, none⟩ = some (.slice A0_4 L.length c0_4) := (blk_cell HX.out.b2 4).trans rfl; have h2_5 : w2.cell? ⟨g2, 5, none⟩ = some (.slice A0_5 S.length c0_5) := (blk_cell HX.out.b2 5).trans rfl; have h3_0 : w2.cell? ⟨g3, 0, none⟩ = some (.int .i64 a0_0) := (blk_cell HX.out.b3 0).trans rfl; have h3_1 : w2.cell? ⟨g3, 1, none⟩ = some (.int .i64 a0_1) := (blk_cell HX.out.b3 1).trans rfl; have h3_2 : w2.cell? ⟨g3, 2, none⟩ = some (.int .i64 a0_2) := (blk_cell HX.out.b3 2).trans rfl; have h3_3 : w2.cell? ⟨g3, 3, none⟩ = some (.int .i64 a0_3) := (blk_cell HX.out.b3 3).trans rfl; have h3_4 : w2.cell? ⟨g3, 4, none⟩ = some (.slice A1_4 L.length c1_4) := (blk_cell HX.out.b3 4).trans rfl; have h3_5 : w2.cell? ⟨g3, 5, none⟩ = some (.slice A1_5 S.length c1_5) := (blk_cell HX.out.b3 5).trans rfl))
  go_loopw [5] (fun s wr => ∃ i : Nat, i ≤ L.length ∧ s = .int .i64 i ∧ Bx w wr g2 g3 #[.int .i64 a0_0, .int .i64 a0_1, .int .i64 a0_2, .int .i64 a0_3, .slice A0_4 L.length c0_4, .slice A0_5 S.length c0_5] #[.int .i64 a0_0, .int .i64 a0_1, .int .i64 a0_2, .int .i64 a0_3, .slice A1_4 L.length c1_4, .slice A1_5 S.length c1_5]) (fun s _ => L.length - (intOf s).toNat)
  case atStart => exact ⟨0, Nat.zero_le _, rfl, HX.out⟩
  case round =>
    clear h2_0 h2_1 h2_2 h2_3 h2_4 h2_5 h3_0 h3_1 h3_2 h3_3 h3_4 h3_5 HX
    obtain ⟨i, hi, rfl, hx⟩ := hrel
    have HX := Aside0.mk hx
    clear hx
    have h2_0 : wr.cell? ⟨g2, 0, none⟩ = some (.int .i64 a0_0) := (blk_cell HX.out.b2 0).trans rfl
    have h2_1 : wr.cell? ⟨g2, 1, none⟩ = some (.int .i64 a0_1) := (blk_cell HX.out.b2 1).trans rfl
    have h2_2 : wr.cell? ⟨g2, 2, none⟩ = some (.int .i64 a0_2) := (blk_cell HX.out.b2 2).trans rfl
    have h2_3 : wr.cell? ⟨g2, 3, none⟩ = some (.int .i64 a0_3) := (blk_cell HX.out.b2 3).trans rfl
    have h2_4 : wr.cell? ⟨g2, 4, none⟩ = some (.slice A0_4 L.length c0_4) := (blk_cell HX.out.b2 4).trans rfl
    have h2_5 : wr.cell? ⟨g2, 5, none⟩ = some (.slice A0_5 S.length c0_5) := (blk_cell HX.out.b2 5).trans rfl
    have h3_0 : wr.cell? ⟨g3, 0, none⟩ = some (.int .i64 a0_0) := (blk_cell HX.out.b3 0).trans rfl
    have h3_1 : wr.cell? ⟨g3, 1, none⟩ = some (.int .i64 a0_1) := (blk_cell HX.out.b3 1).trans rfl
    have h3_2 : wr.cell? ⟨g3, 2, none⟩ = some (.int .i64 a0_2) := (blk_cell HX.out.b3 2).trans rfl
    have h3_3 : wr.cell? ⟨g3, 3, none⟩ = some (.int .i64 a0_3) := (blk_cell HX.out.b3 3).trans rfl
    have h3_4 : wr.cell? ⟨g3, 4, none⟩ = some (.slice A1_4 L.length c1_4) := (blk_cell HX.out.b3 4).trans rfl
    have h3_5 : wr.cell? ⟨g3, 5, none⟩ = some (.slice A1_5 S.length c1_5) := (blk_cell HX.out.b3 5).trans rfl
    by_cases hin : i < L.length
    · have hc : decide ((i : Int) < (L.length : Int)) = true := decide_eq_true (by omega)
      have p0 : (0 ≤ (i : Int)) = True := eq_true (by omega)
      have p1 : ((i : Int) < (L.length : Int)) = True := eq_true (by omega)
      obtain ⟨ad, e, x0, x1, x2, x3, x4, x5, x6, x7, x8, x9⟩ := at_T31 (Kd.C_below H04.out HX.out.hB) (i : Int) (by omega) (by omega)
      obtain ⟨ad', e', y0, y1, y2, y3, y4, y5, y6, y7, y8, y9⟩ := at_T31 (Kd.C_below H14.out HX.out.hB) (i : Int) (by omega) (by omega)
      generalize rd_T31 L (i : Int) = x at *
      have Hin := Aside0.mk hin
      subst e e'
      rw [Int.toNat_natCast] at x0 x1 x2 x3 x4 x5 x6 x7 x8 x9 y0 y1 y2 y3 y4 y5 y6 y7 y8 y9
      go_wp2_with fail
      go_quiet (fail)
      go_wp2_with fail
      have h1 := HK.out.l
      go_roundw
      case rel => exact ⟨i + 1, Hin.out, rise Hin.out h1, HX.out.below (pw_below_drewN (Below.refl _ _) _)⟩
      case measure => exact fall Hin.out h1
    · have e : i = L.length := by omega
      subst e
      have hc : decide ((L.length : Int) < (L.length : Int)) = false := decide_eq_false (by omega)
      go_wp2_with fail
      go_loopw [6] (fun s wr => ∃ i : Nat, i ≤ S.length ∧ s = .int .i64 i ∧ Bx w wr g2 g3 #[.int .i64 a0_0, .int .i64 a0_1, .int .i64 a0_2, .int .i64 a0_3, .slice A0_4 L.length c0_4, .slice A0_5 S.length c0_5] #[.int .i64 a0_0, .int .i64 a0_1, .int .i64 a0_2, .int .i64 a0_3, .slice A1_4 L.length c1_4, .slice A1_5 S.length c1_5]) (fun s _ => S.length - (intOf s).toNat)
      case atStart => exact ⟨0, Nat.zero_le _, rfl, HX.out⟩
      case round =>
        clear h2_0 h2_1 h2_2 h2_3 h2_4 h2_5 h3_0 h3_1 h3_2 h3_3 h3_4 h3_5 HX
        obtain ⟨i, hi, rfl, hx⟩ := hrel
        have HX := Aside0.mk hx
        clear hx
        have h2_0 : wr.cell? ⟨g2, 0, none⟩ = some (.int .i64 a0_0) := (blk_cell HX.out.b2 0).trans rfl
        have h2_1 : wr.cell? ⟨g2, 1, none⟩ = some (.int .i64 a0_1) := (blk_cell HX.out.b2 1).trans rfl
        have h2_2 : wr.cell? ⟨g2, 2, none⟩ = some (.int .i64 a0_2) := (blk_cell HX.out.b2 2).trans rfl
        have h2_3 : wr.cell? ⟨g2, 3, none⟩ = some (.int .i64 a0_3) := (blk_cell HX.out.b2 3).trans rfl
        have h2_4 : wr.cell? ⟨g2, 4, none⟩ = some (.slice A0_4 L.length c0_4) := (blk_cell HX.out.b2 4).trans rfl
        have h2_5 : wr.cell? ⟨g2, 5, none⟩ = some (.slice A0_5 S.length c0_5) := (blk_cell HX.out.b2 5).trans rfl
        have h3_0 : wr.cell? ⟨g3, 0, none⟩ = some (.int .i64 a0_0) := (blk_cell HX.out.b3 0).trans rfl
        have h3_1 : wr.cell? ⟨g3, 1, none⟩ = some (.int .i64 a0_1) := (blk_cell HX.out.b3 1).trans rfl
        have h3_2 : wr.cell? ⟨g3, 2, none⟩ = some (.int .i64 a0_2) := (blk_cell HX.out.b3 2).trans rfl
        have h3_3 : wr.cell? ⟨g3, 3, none⟩ = some (.int .i64 a0_3) := (blk_cell HX.out.b3 3).trans rfl
        have h3_4 : wr.cell? ⟨g3, 4, none⟩ = some (.slice A1_4 L.length c1_4) := (blk_cell HX.out.b3 4).trans rfl
        have h3_5 : wr.cell? ⟨g3, 5, none⟩ = some (.slice A1_5 S.length c1_5) := (blk_cell HX.out.b3 5).trans rfl
        by_cases hin : i < S.length
        · have hc : decide ((i : Int) < (S.length : Int)) = true := decide_eq_true (by omega)
          have p0 : (0 ≤ (i : Int)) = True := eq_true (by omega)
          have p1 : ((i : Int) < (S.length : Int)) = True := eq_true (by omega)
          obtain ⟨ad, B4, d4, e, x0, x1, x2, x3, x4, m4, r4⟩ := at_T34 (Kd.C_below H05.out HX.out.hB) (i : Int) (by omega) (by omega)
          obtain ⟨ad', B4', d4', e', y0, y1, y2, y3, y4, m4', r4'⟩ := at_T34 (Kd.C_below H15.out HX.out.hB) (i : Int) (by omega) (by omega)
          have hk := HK.out.sn S[i] (List.getElem_mem hin)
          rw [← rd34_mem hin] at hk
          generalize rd_T34 S (i : Int) = x at *
          have R4 := Aside0.mk r4
          have R4' := Aside0.mk r4'
          have M4 := Aside0.mk m4
          have M4' := Aside0.mk m4'
          have Hk := Aside0.mk hk
          have Hin := Aside0.mk hin
          clear r4 r4' m4 m4' hk
          subst e e'
          rw [Int.toNat_natCast] at x0 x1 x2 x3 x4 y0 y1 y2 y3 y4
          have Hh0 := Aside0.mk (show wr.drew.cell? ⟨g2, 5, none⟩ = some (.slice (some ad) S.length c0_5) ∧ wr.drew.cell? ⟨g3, 5, none⟩ = some (.slice (some ad') S.length c1_5) ∧ wr.drew.cell? (ad.add (i * 5)) = some (.string x.f0) ∧ wr.drew.cell? ⟨(ad.add (i * 5)).block, (ad.add (i * 5)).off + 1, none⟩ = some (.string x.f1) ∧ wr.drew.cell? ⟨(ad.add (i * 5)).block, (ad.add (i * 5)).off + 2, none⟩ = some (.int .i64 x.f2) ∧ wr.drew.cell? ⟨(ad.add (i * 5)).block, (ad.add (i * 5)).off + 3, none⟩ = some (.int .i64 x.f3) ∧ wr.drew.cell? ⟨(ad.add (i * 5)).block, (ad.add (i * 5)).off + 4, none⟩ = some (.slice B4 x.f4.length d4) ∧ wr.drew.cell? (ad'.add (i * 5)) = some (.string x.f0) ∧ wr.drew.cell? ⟨(ad'.add (i * 5)).block, (ad'.add (i * 5)).off + 1, none⟩ = some (.string x.f1) ∧ wr.drew.cell? ⟨(ad'.add (i * 5)).block, (ad'.add (i * 5)).off + 2, none⟩ = some (.int .i64 x.f2) ∧ wr.drew.cell? ⟨(ad'.add (i * 5)).block, (ad'.add (i * 5)).off + 3, none⟩ = some (.int .i64 x.f3) ∧ wr.drew.cell? ⟨(ad'.add (i * 5)).block, (ad'.add (i * 5)).off + 4, none⟩ = some (.slice B4' x.f4.length d4') from ⟨h2_5, h3_5, x0, x1, x2, x3, x4, y0, y1, y2, y3, y4⟩)
          have HX0 := Aside0.mk (HX.out.below (below_drew (Below.refl _ _)))
          replace R4 := Aside0.mk (Kd.C_drew R4.out)
          replace R4' := Aside0.mk (Kd.C_drew R4'.out)
          go_wp2_with fail
          refine start_ (n := 14) (S := fun w' => w'.cell? ⟨g2, 5, none⟩ = some (.slice (some ad) S.length c0_5) ∧ w'.cell? ⟨g3, 5, none⟩ = some (.slice (some ad') S.length c1_5) ∧ w'.cell? (ad.add (i * 5)) = some (.string x.f0) ∧ w'.cell? ⟨(ad.add (i * 5)).block, (ad.add (i * 5)).off + 1, none⟩ = some (.string x.f1) ∧ w'.cell? ⟨(ad.add (i * 5)).block, (ad.add (i * 5)).off + 2, none⟩ = some (.int .i64 x.f2) ∧ w'.cell? ⟨(ad.add (i * 5)).block, (ad.add (i * 5)).off + 3, none⟩ = some (.int .i64 x.f3) ∧ w'.cell? ⟨(ad.add (i * 5)).block, (ad.add (i * 5)).off + 4, none⟩ = some (.slice B4 x.f4.length d4) ∧ w'.cell? (ad'.add (i * 5)) = some (.string x.f0) ∧ w'.cell? ⟨(ad'.add (i * 5)).block, (ad'.add (i * 5)).off + 1, none⟩ = some (.string x.f1) ∧ w'.cell? ⟨(ad'.add (i * 5)).block, (ad'.add (i * 5)).off + 2, none⟩ = some (.int .i64 x.f2) ∧ w'.cell? ⟨(ad'.add (i * 5)).block, (ad'.add (i * 5)).off + 3, none⟩ = some (.int .i64 x.f3) ∧ w'.cell? ⟨(ad'.add (i * 5)).block, (ad'.add (i * 5)).off + 4, none⟩ = some (.slice B4' x.f4.length d4')) (ds := []) #[false, false, false, false, false, false, false, false, false, false, false, false, false, false] (by kernel_rfl) rfl rfl Hh0.out (fun hHeld => ?_); refine with_tabW tab11 bits11 (fun HT_ HW_ => ?_)
          clear h2_0 h2_1 h2_2 h2_3 h2_4 h2_5 h3_0 h3_1 h3_2 h3_3 h3_4 h3_5 HX x0 x1 x2 x3 x4 y0 y1 y2 y3 y4
          generalize wr.drew = W0 at Hh0 HX0 R4 R4' hHeld ⊢
          refine pure_ (i := 0) (N := some 78) (v := ?_) (a' := ?_) #[true, false, false, false, false, false, false, false, false, false, false, false, false, false] rfl rfl (any_of HT_.out (by kernel_rfl)) (fun _ _ _ h => h) (Or.inl ⟨by rfl, ?_⟩) ?_ ?_
          rotate_left
          · intro w'
            go_simp
            with_reducible rfl
          rotate_left
          · simp only [Act.put, List.setIfInBounds_toArray, List.set_cons_zero, List.set_cons_succ, i64_w, i32_w]
            rfl
          refine pure_ (i := 2) (N := some 80) (v := ?_) (a' := ?_) #[true, false, true, false, false, false, false, false, false, false, false, false, false, false] rfl rfl (any_of HT_.out (by kernel_rfl)) (fun _ _ _ h => h) (Or.inl ⟨by rfl, ?_⟩) ?_ ?_
          rotate_left
          · intro w'
            go_simp
            with_reducible rfl
          rotate_left
          · simp only [Act.put, List.setIfInBounds_toArray, List.set_cons_zero, List.set_cons_succ, i64_w, i32_w]
            rfl
          refine pure_ (i := 5) (N := some 83) (v := ?_) (a' := ?_) #[true, false, true, false, false, true, false, false, false, false, false, false, false, false] rfl rfl (any_of HT_.out (by kernel_rfl)) (fun _ _ _ h => h) (Or.inl ⟨by rfl, ?_⟩) ?_ ?_
          rotate_left
          · intro w'
            go_simp
            with_reducible rfl
          rotate_left
          · simp only [Act.put, List.setIfInBounds_toArray, List.set_cons_zero, List.set_cons_succ, i64_w, i32_w]
            rfl
          refine pure_ (i := 7) (N := some 85) (v := ?_) (a' := ?_) #[true, false, true, false, false, true, false, true, false, false, false, false, false, false] rfl rfl (any_of HT_.out (by kernel_rfl)) (fun _ _ _ h => h) (Or.inl ⟨by rfl, ?_⟩) ?_ ?_
          rotate_left
          · intro w'
            go_simp
            with_reducible rfl
          rotate_left
          · simp only [Act.put, List.setIfInBounds_toArray, List.set_cons_zero, List.set_cons_succ, i64_w, i32_w]
            rfl
          refine take_ (i := 1) (N := some 79) (v := ?_) (a' := ?_) #[true, true, true, false, false, true, false, true, false, false, false, false, false, false] rfl rfl (take_ofW HT_.out HW_.out (by kernel_rfl)) (fun _ _ _ h => h) (Or.inl ⟨by rfl, ?_⟩) hHeld ?_ ?_
          rotate_left
          · rintro w' ⟨s0, s1, s2, s3, s4, s5, s6, s7, s8, s9, s10, s11⟩
            go_simp
            with_reducible rfl
          rotate_left
          · simp only [Act.put, List.setIfInBounds_toArray, List.set_cons_zero, List.set_cons_succ, i64_w, i32_w]
            rfl
          refine pure_ (i := 3) (N := some 81) (v := ?_) (a' := ?_) #[true, true, true, true, false, true, false, true, false, false, false, false, false, false] rfl rfl (any_of HT_.out (by kernel_rfl)) (fun _ _ _ h => h) (Or.inl ⟨by rfl, ?_⟩) ?_ ?_
          rotate_left
          · intro w'
            go_simp
            with_reducible rfl
          rotate_left
          · simp only [Act.put, List.setIfInBounds_toArray, List.set_cons_zero, List.set_cons_succ, i64_w, i32_w]
            rfl
          refine take_ (i := 4) (N := some 82) (v := ?_) (a' := ?_) #[true, true, true, true, true, true, false, true, false, false, false, false, false, false] rfl rfl (take_ofW HT_.out HW_.out (by kernel_rfl)) (fun _ _ _ h => h) (Or.inl ⟨by rfl, ?_⟩) hHeld ?_ ?_
          rotate_left
          · rintro w' ⟨s0, s1, s2, s3, s4, s5, s6, s7, s8, s9, s10, s11⟩
            go_simp
            with_reducible rfl
          rotate_left
          · simp only [Act.put, List.setIfInBounds_toArray, List.set_cons_zero, List.set_cons_succ, i64_w, i32_w]
            rfl
          refine take_ (i := 6) (N := some 84) (v := ?_) (a' := ?_) #[true, true, true, true, true, true, true, true, false, false, false, false, false, false] rfl rfl (take_ofW HT_.out HW_.out (by kernel_rfl)) (fun _ _ _ h => h) (Or.inl ⟨by rfl, ?_⟩) hHeld ?_ ?_
          rotate_left
          · rintro w' ⟨s0, s1, s2, s3, s4, s5, s6, s7, s8, s9, s10, s11⟩
            go_simp
            with_reducible rfl
          rotate_left
          · simp only [Act.put, List.setIfInBounds_toArray, List.set_cons_zero, List.set_cons_succ, i64_w, i32_w]
            rfl
          refine pure_ (i := 8) (N := some 86) (v := ?_) (a' := ?_) #[true, true, true, true, true, true, true, true, true, false, false, false, false, false] rfl rfl (any_of HT_.out (by kernel_rfl)) (fun _ _ _ h => h) (Or.inl ⟨by rfl, ?_⟩) ?_ ?_
          rotate_left
          · intro w'
            go_simp
            with_reducible rfl
          rotate_left
          · simp only [Act.put, List.setIfInBounds_toArray, List.set_cons_zero, List.set_cons_succ, i64_w, i32_w]
            rfl
          refine take_ (i := 9) (N := some 87) (v := ?_) (a' := ?_) #[true, true, true, true, true, true, true, true, true, true, false, false, false, false] rfl rfl (take_ofW HT_.out HW_.out (by kernel_rfl)) (fun _ _ _ h => h) (Or.inl ⟨by rfl, ?_⟩) hHeld ?_ ?_
          rotate_left
          · rintro w' ⟨s0, s1, s2, s3, s4, s5, s6, s7, s8, s9, s10, s11⟩
            go_simp
            with_reducible rfl
          rotate_left
          · simp only [Act.put, List.setIfInBounds_toArray, List.set_cons_zero, List.set_cons_succ, i64_w, i32_w]
            rfl
          refine join_ (σ := Nat × Nat) 2 #[true, true, true, true, true, true, true, true, true, true, true, true, false, false] (fun s_ => [(7, .pointer (some ⟨s_.1, 0, none⟩)), (8, .pointer (some ⟨s_.2, 0, none⟩))]) (fun s_ w' => (w'.cell? ⟨g2, 5, none⟩ = some (.slice (some ad) S.length c0_5) ∧ w'.cell? ⟨g3, 5, none⟩ = some (.slice (some ad') S.length c1_5) ∧ w'.cell? (ad.add (i * 5)) = some (.string x.f0) ∧ w'.cell? ⟨(ad.add (i * 5)).block, (ad.add (i * 5)).off + 1, none⟩ = some (.string x.f1) ∧ w'.cell? ⟨(ad.add (i * 5)).block, (ad.add (i * 5)).off + 2, none⟩ = some (.int .i64 x.f2) ∧ w'.cell? ⟨(ad.add (i * 5)).block, (ad.add (i * 5)).off + 3, none⟩ = some (.int .i64 x.f3) ∧ w'.cell? ⟨(ad.add (i * 5)).block, (ad.add (i * 5)).off + 4, none⟩ = some (.slice B4 x.f4.length d4) ∧ w'.cell? (ad'.add (i * 5)) = some (.string x.f0) ∧ w'.cell? ⟨(ad'.add (i * 5)).block, (ad'.add (i * 5)).off + 1, none⟩ = some (.string x.f1) ∧ w'.cell? ⟨(ad'.add (i * 5)).block, (ad'.add (i * 5)).off + 2, none⟩ = some (.int .i64 x.f2) ∧ w'.cell? ⟨(ad'.add (i * 5)).block, (ad'.add (i * 5)).off + 3, none⟩ = some (.int .i64 x.f3) ∧ w'.cell? ⟨(ad'.add (i * 5)).block, (ad'.add (i * 5)).off + 4, none⟩ = some (.slice B4' x.f4.length d4')) ∧ w'.heap[s_.1]? = some (.cells #[.string (⟨#[]⟩ : ByteArray), .string (⟨#[]⟩ : ByteArray), .int .i64 0, .int .i64 0, .slice none 0 0] 34 (0, 0)) ∧ w'.heap[s_.2]? = some (.cells #[.string (⟨#[]⟩ : ByteArray), .string (⟨#[]⟩ : ByteArray), .int .i64 0, .int .i64 0, .slice none 0 0] 34 (0, 0)) ∧ W0.heap.size ≤ s_.1 ∧ W0.heap.size ≤ s_.2 ∧ s_.1 ≠ s_.2 ∧ Below W0.heap.size W0 w') ?_ ?_
          rotate_left
          · intro hCont
            refine two_ (i := 10) (j := 11) (Ni := some 7) (Nj := some 8) #[true, true, true, true, true, true, true, true, true, true, true, false, false, false] #[true, true, true, true, true, true, true, true, true, true, false, true, false, false] rfl rfl rfl rfl (two_of HT_.out (by kernel_rfl)) (by decide) (by decide) (fun K hK => ?_) (fun K hK => ?_)
            · refine box_step ?hg (N := 7) ?hd (cs := #[.string (⟨#[]⟩ : ByteArray), .string (⟨#[]⟩ : ByteArray), .int .i64 0, .int .i64 0, .slice none 0 0]) (t := 34) ?hr ?_; (case hd => rfl); (case hg => rfl); (case hr => first | (go_simp; done) | (go_simp; rfl))
              intro g7 hg u1 hbox hb
              have D1 := Aside0.mk hb
              have B7 := Aside0.mk hbox
              have G7 := Aside0.mk (show W0.heap.size ≤ g7 by rw [hg]; exact Nat.le_refl _)
              clear hb hbox hg
              refine hK.out _ _ ⟨pw_cell_below D1.out Hh0.out.1, pw_cell_below D1.out Hh0.out.2.1, pw_cell_below D1.out Hh0.out.2.2.1, pw_cell_below D1.out Hh0.out.2.2.2.1, pw_cell_below D1.out Hh0.out.2.2.2.2.1, pw_cell_below D1.out Hh0.out.2.2.2.2.2.1, pw_cell_below D1.out Hh0.out.2.2.2.2.2.2.1, pw_cell_below D1.out Hh0.out.2.2.2.2.2.2.2.1, pw_cell_below D1.out Hh0.out.2.2.2.2.2.2.2.2.1, pw_cell_below D1.out Hh0.out.2.2.2.2.2.2.2.2.2.1, pw_cell_below D1.out Hh0.out.2.2.2.2.2.2.2.2.2.2.1, pw_cell_below D1.out Hh0.out.2.2.2.2.2.2.2.2.2.2.2⟩ (fun hHeld => ?_)
              clear hK K
              refine norm_ (a' := ?_) ?_ ?_
              rotate_left
              · show Act.put _ (some 7) _ = _
                simp only [Act.put, List.setIfInBounds_toArray, List.set_cons_zero, List.set_cons_succ, i64_w, i32_w]
                rfl
              refine one_ (i := 11) (N := some 8) #[true, true, true, true, true, true, true, true, true, true, true, true, false, false] rfl rfl (one_of HT_.out (by kernel_rfl)) (by decide) (fun K hK => ?_)
              refine box_step ?hg (N := 8) ?hd (cs := #[.string (⟨#[]⟩ : ByteArray), .string (⟨#[]⟩ : ByteArray), .int .i64 0, .int .i64 0, .slice none 0 0]) (t := 34) ?hr ?_; (case hd => rfl); (case hg => rfl); (case hr => first | (go_simp; done) | (go_simp; rfl))
              intro g8 hg u2 hbox hb
              have D2 := Aside0.mk (below_step D1.out hb)
              have B8 := Aside0.mk hbox
              have G8 := Aside0.mk (show W0.heap.size ≤ g8 by rw [hg]; exact D1.out.size)
              have N1 := Aside0.mk (show g7 ≠ g8 by rw [hg]; exact Nat.ne_of_lt (blk_lt B7.out))
              replace B7 := Aside0.mk (blk_below B7.out hb)
              clear hb hbox hg
              refine hK.out _ _ ⟨pw_cell_below D2.out Hh0.out.1, pw_cell_below D2.out Hh0.out.2.1, pw_cell_below D2.out Hh0.out.2.2.1, pw_cell_below D2.out Hh0.out.2.2.2.1, pw_cell_below D2.out Hh0.out.2.2.2.2.1, pw_cell_below D2.out Hh0.out.2.2.2.2.2.1, pw_cell_below D2.out Hh0.out.2.2.2.2.2.2.1, pw_cell_below D2.out Hh0.out.2.2.2.2.2.2.2.1, pw_cell_below D2.out Hh0.out.2.2.2.2.2.2.2.2.1, pw_cell_below D2.out Hh0.out.2.2.2.2.2.2.2.2.2.1, pw_cell_below D2.out Hh0.out.2.2.2.2.2.2.2.2.2.2.1, pw_cell_below D2.out Hh0.out.2.2.2.2.2.2.2.2.2.2.2⟩ (fun hHeld => ?_)
              clear hK K
              refine norm_ (a' := ?_) ?_ ?_
              rotate_left
              · show Act.put _ (some 8) _ = _
                simp only [Act.put, List.setIfInBounds_toArray, List.set_cons_zero, List.set_cons_succ, i64_w, i32_w]
                rfl
              exact norm_ (by simp only [putAll, Act.put, List.setIfInBounds_toArray, List.set_cons_zero, List.set_cons_succ]) (hCont (g7, g8) _ ⟨hHeld, B7.out, B8.out, G7.out, G8.out, N1.out, D2.out⟩)
            · refine box_step ?hg (N := 8) ?hd (cs := #[.string (⟨#[]⟩ : ByteArray), .string (⟨#[]⟩ : ByteArray), .int .i64 0, .int .i64 0, .slice none 0 0]) (t := 34) ?hr ?_; (case hd => rfl); (case hg => rfl); (case hr => first | (go_simp; done) | (go_simp; rfl))
              intro g8 hg u1 hbox hb
              have D1 := Aside0.mk hb
              have B8 := Aside0.mk hbox
              have G8 := Aside0.mk (show W0.heap.size ≤ g8 by rw [hg]; exact Nat.le_refl _)
              clear hb hbox hg
              refine hK.out _ _ ⟨pw_cell_below D1.out Hh0.out.1, pw_cell_below D1.out Hh0.out.2.1, pw_cell_below D1.out Hh0.out.2.2.1, pw_cell_below D1.out Hh0.out.2.2.2.1, pw_cell_below D1.out Hh0.out.2.2.2.2.1, pw_cell_below D1.out Hh0.out.2.2.2.2.2.1, pw_cell_below D1.out Hh0.out.2.2.2.2.2.2.1, pw_cell_below D1.out Hh0.out.2.2.2.2.2.2.2.1, pw_cell_below D1.out Hh0.out.2.2.2.2.2.2.2.2.1, pw_cell_below D1.out Hh0.out.2.2.2.2.2.2.2.2.2.1, pw_cell_below D1.out Hh0.out.2.2.2.2.2.2.2.2.2.2.1, pw_cell_below D1.out Hh0.out.2.2.2.2.2.2.2.2.2.2.2⟩ (fun hHeld => ?_)
              clear hK K
              refine norm_ (a' := ?_) ?_ ?_
              rotate_left
              · show Act.put _ (some 8) _ = _
                simp only [Act.put, List.setIfInBounds_toArray, List.set_cons_zero, List.set_cons_succ, i64_w, i32_w]
                rfl
              refine one_ (i := 10) (N := some 7) #[true, true, true, true, true, true, true, true, true, true, true, true, false, false] rfl rfl (one_of HT_.out (by kernel_rfl)) (by decide) (fun K hK => ?_)
              refine box_step ?hg (N := 7) ?hd (cs := #[.string (⟨#[]⟩ : ByteArray), .string (⟨#[]⟩ : ByteArray), .int .i64 0, .int .i64 0, .slice none 0 0]) (t := 34) ?hr ?_; (case hd => rfl); (case hg => rfl); (case hr => first | (go_simp; done) | (go_simp; rfl))
              intro g7 hg u2 hbox hb
              have D2 := Aside0.mk (below_step D1.out hb)
              have B7 := Aside0.mk hbox
              have G7 := Aside0.mk (show W0.heap.size ≤ g7 by rw [hg]; exact D1.out.size)
              have N1 := Aside0.mk (show g8 ≠ g7 by rw [hg]; exact Nat.ne_of_lt (blk_lt B8.out))
              replace B8 := Aside0.mk (blk_below B8.out hb)
              clear hb hbox hg
              refine hK.out _ _ ⟨pw_cell_below D2.out Hh0.out.1, pw_cell_below D2.out Hh0.out.2.1, pw_cell_below D2.out Hh0.out.2.2.1, pw_cell_below D2.out Hh0.out.2.2.2.1, pw_cell_below D2.out Hh0.out.2.2.2.2.1, pw_cell_below D2.out Hh0.out.2.2.2.2.2.1, pw_cell_below D2.out Hh0.out.2.2.2.2.2.2.1, pw_cell_below D2.out Hh0.out.2.2.2.2.2.2.2.1, pw_cell_below D2.out Hh0.out.2.2.2.2.2.2.2.2.1, pw_cell_below D2.out Hh0.out.2.2.2.2.2.2.2.2.2.1, pw_cell_below D2.out Hh0.out.2.2.2.2.2.2.2.2.2.2.1, pw_cell_below D2.out Hh0.out.2.2.2.2.2.2.2.2.2.2.2⟩ (fun hHeld => ?_)
              clear hK K
              refine norm_ (a' := ?_) ?_ ?_
              rotate_left
              · show Act.put _ (some 7) _ = _
                simp only [Act.put, List.setIfInBounds_toArray, List.set_cons_zero, List.set_cons_succ, i64_w, i32_w]
                rfl
              exact norm_ (by simp only [putAll, Act.put, List.setIfInBounds_toArray, List.set_cons_zero, List.set_cons_succ]) (hCont (g7, g8) _ ⟨hHeld, B7.out, B8.out, G7.out, G8.out, Ne.symm N1.out, D2.out⟩)
          rintro ⟨g7, g8⟩ u ⟨hS_, b7, b8, e7, e8, n78, d⟩
          have Hb7 := Aside0.mk b7
          have Hb8 := Aside0.mk b8
          have He7 := Aside0.mk e7
          have He8 := Aside0.mk e8
          have Hd := Aside0.mk d
          have n87 := Ne.symm n78
          have N78 := Aside0.mk n78
          clear b7 b8 e7 e8 d hS_
          refine norm_ (a' := ?_) ?_ ?_
          rotate_left
          · simp only [putAll, Act.put, List.setIfInBounds_toArray, List.set_cons_zero, List.set_cons_succ]
            rfl
          refine one_ (i := 12) (N := none) #[true, true, true, true, true, true, true, true, true, true, true, true, true, false] rfl rfl (one_of HT_.out (by kernel_rfl)) (by decide) (fun K hK => ?_)
          have hsg7_0 : u.cell? ⟨g7, 0, none⟩ = some (.string (⟨#[]⟩ : ByteArray)) := (blk_cell Hb7.out 0).trans rfl
          have hfg7_0 := blk_frozen Hb7.out 0
          have hsg7_1 : u.cell? ⟨g7, 1, none⟩ = some (.string (⟨#[]⟩ : ByteArray)) := (blk_cell Hb7.out 1).trans rfl
          have hfg7_1 := blk_frozen Hb7.out 1
          have hsg7_2 : u.cell? ⟨g7, 2, none⟩ = some (.int .i64 0) := (blk_cell Hb7.out 2).trans rfl
          have hfg7_2 := blk_frozen Hb7.out 2
          have hsg7_3 : u.cell? ⟨g7, 3, none⟩ = some (.int .i64 0) := (blk_cell Hb7.out 3).trans rfl
          have hfg7_3 := blk_frozen Hb7.out 3
          have hsg7_4 : u.cell? ⟨g7, 4, none⟩ = some (.slice none 0 0) := (blk_cell Hb7.out 4).trans rfl
          have hfg7_4 := blk_frozen Hb7.out 4
          refine skip_ (w1 := ?_) (by rfl) rfl ?_ ?_
          rotate_left
          · go_simp
            rfl
          have D3 := Aside0.mk (show Below W0.heap.size W0 (((((u.setCell ⟨g7, 0, none⟩ (.string x.f0)).setCell ⟨g7, 1, none⟩ (.string x.f1)).setCell ⟨g7, 2, none⟩ (.int .i64 x.f2)).setCell ⟨g7, 3, none⟩ (.int .i64 x.f3)).setCell ⟨g7, 4, none⟩ (.slice B4 x.f4.length d4)) from below_set (below_set (below_set (below_set (below_set (Hd.out) He7.out) He7.out) He7.out) He7.out) He7.out)
          refine hK.out _ _ ⟨pw_cell_below D3.out Hh0.out.1, pw_cell_below D3.out Hh0.out.2.1, pw_cell_below D3.out Hh0.out.2.2.1, pw_cell_below D3.out Hh0.out.2.2.2.1, pw_cell_below D3.out Hh0.out.2.2.2.2.1, pw_cell_below D3.out Hh0.out.2.2.2.2.2.1, pw_cell_below D3.out Hh0.out.2.2.2.2.2.2.1, pw_cell_below D3.out Hh0.out.2.2.2.2.2.2.2.1, pw_cell_below D3.out Hh0.out.2.2.2.2.2.2.2.2.1, pw_cell_below D3.out Hh0.out.2.2.2.2.2.2.2.2.2.1, pw_cell_below D3.out Hh0.out.2.2.2.2.2.2.2.2.2.2.1, pw_cell_below D3.out Hh0.out.2.2.2.2.2.2.2.2.2.2.2⟩ (fun hHeld => ?_)
          clear hK K
          refine one_ (i := 13) (N := none) #[true, true, true, true, true, true, true, true, true, true, true, true, true, true] rfl rfl (one_of HT_.out (by kernel_rfl)) (by decide) (fun K hK => ?_)
          have hsg8_0 : u.cell? ⟨g8, 0, none⟩ = some (.string (⟨#[]⟩ : ByteArray)) := (blk_cell Hb8.out 0).trans rfl
          have hfg8_0 := blk_frozen Hb8.out 0
          have hsg8_1 : u.cell? ⟨g8, 1, none⟩ = some (.string (⟨#[]⟩ : ByteArray)) := (blk_cell Hb8.out 1).trans rfl
          have hfg8_1 := blk_frozen Hb8.out 1
          have hsg8_2 : u.cell? ⟨g8, 2, none⟩ = some (.int .i64 0) := (blk_cell Hb8.out 2).trans rfl
          have hfg8_2 := blk_frozen Hb8.out 2
          have hsg8_3 : u.cell? ⟨g8, 3, none⟩ = some (.int .i64 0) := (blk_cell Hb8.out 3).trans rfl
          have hfg8_3 := blk_frozen Hb8.out 3
          have hsg8_4 : u.cell? ⟨g8, 4, none⟩ = some (.slice none 0 0) := (blk_cell Hb8.out 4).trans rfl
          have hfg8_4 := blk_frozen Hb8.out 4
          refine skip_ (w1 := ?_) (by rfl) rfl ?_ ?_
          rotate_left
          · go_simp
            rfl
          have D4 := Aside0.mk (show Below W0.heap.size W0 ((((((((((u.setCell ⟨g7, 0, none⟩ (.string x.f0)).setCell ⟨g7, 1, none⟩ (.string x.f1)).setCell ⟨g7, 2, none⟩ (.int .i64 x.f2)).setCell ⟨g7, 3, none⟩ (.int .i64 x.f3)).setCell ⟨g7, 4, none⟩ (.slice B4 x.f4.length d4)).setCell ⟨g8, 0, none⟩ (.string x.f0)).setCell ⟨g8, 1, none⟩ (.string x.f1)).setCell ⟨g8, 2, none⟩ (.int .i64 x.f2)).setCell ⟨g8, 3, none⟩ (.int .i64 x.f3)).setCell ⟨g8, 4, none⟩ (.slice B4' x.f4.length d4')) from below_set (below_set (below_set (below_set (below_set (D3.out) He8.out) He8.out) He8.out) He8.out) He8.out)
          refine hK.out _ _ ⟨pw_cell_below D4.out Hh0.out.1, pw_cell_below D4.out Hh0.out.2.1, pw_cell_below D4.out Hh0.out.2.2.1, pw_cell_below D4.out Hh0.out.2.2.2.1, pw_cell_below D4.out Hh0.out.2.2.2.2.1, pw_cell_below D4.out Hh0.out.2.2.2.2.2.1, pw_cell_below D4.out Hh0.out.2.2.2.2.2.2.1, pw_cell_below D4.out Hh0.out.2.2.2.2.2.2.2.1, pw_cell_below D4.out Hh0.out.2.2.2.2.2.2.2.2.1, pw_cell_below D4.out Hh0.out.2.2.2.2.2.2.2.2.2.1, pw_cell_below D4.out Hh0.out.2.2.2.2.2.2.2.2.2.2.1, pw_cell_below D4.out Hh0.out.2.2.2.2.2.2.2.2.2.2.2⟩ (fun hHeld => ?_)
          clear hK K
          refine done_ (done_of HT_.out (by kernel_rfl)) ?_
          have B7 : Aside0 (((((((((((u.setCell ⟨g7, 0, none⟩ (.string x.f0)).setCell ⟨g7, 1, none⟩ (.string x.f1)).setCell ⟨g7, 2, none⟩ (.int .i64 x.f2)).setCell ⟨g7, 3, none⟩ (.int .i64 x.f3)).setCell ⟨g7, 4, none⟩ (.slice B4 x.f4.length d4)).setCell ⟨g8, 0, none⟩ (.string x.f0)).setCell ⟨g8, 1, none⟩ (.string x.f1)).setCell ⟨g8, 2, none⟩ (.int .i64 x.f2)).setCell ⟨g8, 3, none⟩ (.int .i64 x.f3)).setCell ⟨g8, 4, none⟩ (.slice B4' x.f4.length d4')).heap[g7]? = some (.cells #[.string x.f0, .string x.f1, .int .i64 x.f2, .int .i64 x.f3, .slice B4 x.f4.length d4] 34 (0, 0))) := ⟨blk_far (blk_far (blk_far (blk_far (blk_far (blk_set (blk_set (blk_set (blk_set (blk_set (Hb7.out) 0 _) 1 _) 2 _) 3 _) 4 _) N78.out _) N78.out _) N78.out _) N78.out _) N78.out _⟩
          have B8 : Aside0 (((((((((((u.setCell ⟨g7, 0, none⟩ (.string x.f0)).setCell ⟨g7, 1, none⟩ (.string x.f1)).setCell ⟨g7, 2, none⟩ (.int .i64 x.f2)).setCell ⟨g7, 3, none⟩ (.int .i64 x.f3)).setCell ⟨g7, 4, none⟩ (.slice B4 x.f4.length d4)).setCell ⟨g8, 0, none⟩ (.string x.f0)).setCell ⟨g8, 1, none⟩ (.string x.f1)).setCell ⟨g8, 2, none⟩ (.int .i64 x.f2)).setCell ⟨g8, 3, none⟩ (.int .i64 x.f3)).setCell ⟨g8, 4, none⟩ (.slice B4' x.f4.length d4')).heap[g8]? = some (.cells #[.string x.f0, .string x.f1, .int .i64 x.f2, .int .i64 x.f3, .slice B4' x.f4.length d4'] 34 (0, 0))) := ⟨blk_set (blk_set (blk_set (blk_set (blk_set (blk_far (blk_far (blk_far (blk_far (blk_far (Hb8.out) (Ne.symm N78.out) _) (Ne.symm N78.out) _) (Ne.symm N78.out) _) (Ne.symm N78.out) _) (Ne.symm N78.out) _) 0 _) 1 _) 2 _) 3 _) 4 _⟩
          clear hsg7_0 hfg7_0 hsg7_1 hfg7_1 hsg7_2 hfg7_2 hsg7_3 hfg7_3 hsg7_4 hfg7_4 hsg8_0 hfg8_0 hsg8_1 hfg8_1 hsg8_2 hfg8_2 hsg8_3 hfg8_3 hsg8_4 hfg8_4 n78 n87 HT_ HW_ Hb7 Hb8 D3
          try clear hHeld
          try clear hHeld
          try clear hHeld
          try clear hHeld
          generalize ((((((((((u.setCell ⟨g7, 0, none⟩ (.string x.f0)).setCell ⟨g7, 1, none⟩ (.string x.f1)).setCell ⟨g7, 2, none⟩ (.int .i64 x.f2)).setCell ⟨g7, 3, none⟩ (.int .i64 x.f3)).setCell ⟨g7, 4, none⟩ (.slice B4 x.f4.length d4)).setCell ⟨g8, 0, none⟩ (.string x.f0)).setCell ⟨g8, 1, none⟩ (.string x.f1)).setCell ⟨g8, 2, none⟩ (.int .i64 x.f2)).setCell ⟨g8, 3, none⟩ (.int .i64 x.f3)).setCell ⟨g8, 4, none⟩ (.slice B4' x.f4.length d4')) = V at B7 B8 D4 ⊢
          have HX4 := Aside0.mk (HX0.out.below D4.out)
          have R5 := Aside0.mk (Kd.C_below R4.out D4.out)
          have R5' := Aside0.mk (Kd.C_below R4'.out D4.out)
          have hc7_0 : V.cell? ⟨g7, 0, none⟩ = some (.string x.f0) := (blk_cell B7.out 0).trans rfl
          have hc7_1 : V.cell? ⟨g7, 1, none⟩ = some (.string x.f1) := (blk_cell B7.out 1).trans rfl
          have hc7_2 : V.cell? ⟨g7, 2, none⟩ = some (.int .i64 x.f2) := (blk_cell B7.out 2).trans rfl
          have hc7_3 : V.cell? ⟨g7, 3, none⟩ = some (.int .i64 x.f3) := (blk_cell B7.out 3).trans rfl
          have hc7_4 : V.cell? ⟨g7, 4, none⟩ = some (.slice B4 x.f4.length d4) := (blk_cell B7.out 4).trans rfl
          have hc8_0 : V.cell? ⟨g8, 0, none⟩ = some (.string x.f0) := (blk_cell B8.out 0).trans rfl
          have hc8_1 : V.cell? ⟨g8, 1, none⟩ = some (.string x.f1) := (blk_cell B8.out 1).trans rfl
          have hc8_2 : V.cell? ⟨g8, 2, none⟩ = some (.int .i64 x.f2) := (blk_cell B8.out 2).trans rfl
          have hc8_3 : V.cell? ⟨g8, 3, none⟩ = some (.int .i64 x.f3) := (blk_cell B8.out 3).trans rfl
          have hc8_4 : V.cell? ⟨g8, 4, none⟩ = some (.slice B4' x.f4.length d4') := (blk_cell B8.out 4).trans rfl
          go_wp2_with fail
          refine (rules_any B4 B4' d4 d4' x.f4 Hk.out.2.1 Hk.out.2.2 V R5.out M4.out R5'.out M4'.out).mono ?_
          rintro e w' ⟨rfl, ⟨q, rfl⟩⟩
          go_wp2_with fail
          have h1 := HK.out.s
          go_roundw
          case rel => exact ⟨i + 1, Hin.out, rise Hin.out h1, HX4.out.below (pw_below_drewN (Below.refl _ _) _)⟩
          case measure => exact fall Hin.out h1
        · have e : i = S.length := by omega
          subst e
          have hc : decide ((S.length : Int) < (S.length : Int)) = false := decide_eq_false (by omega)
          go_wp2_with fail
          go_ret
          exact ⟨rfl, HX.out.hB⟩
end Go.Proofs.Ytnbnaflhijfamaa.FillSameCfg
