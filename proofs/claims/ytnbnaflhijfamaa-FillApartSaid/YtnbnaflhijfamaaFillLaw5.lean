/- The walk of the law FillApart: it returns true for every configuration. -/
import Derived.Test.YtnbnaflhijfamaaFillSpoil
namespace Go.Proofs.Ytnbnaflhijfamaa.FillLaw5
open Go.RowKit Go.Proofs.YtnbnaflhijfamaaW.PrintWords Go.Proofs.YtnbnaflhijfamaaW.PrintLast Go.Proofs.YtnbnaflhijfamaaW.PrintMore Go.Proofs.Ytnbnaflhijfamaa.PFillAll Go.Proofs.Ytnbnaflhijfamaa.FillMap Go.Proofs.Ytnbnaflhijfamaa.FillWalk Go.Proofs.Ytnbnaflhijfamaa.FillIs Go.Proofs.Ytnbnaflhijfamaa.FillAwake Go.Proofs.Ytnbnaflhijfamaa.FillSmall Go.Proofs.Ytnbnaflhijfamaa.FillLaws Go.Proofs.Ytnbnaflhijfamaa.FillShape Go.Proofs.Ytnbnaflhijfamaa.FillSpoil
set_option linter.unusedVariables false
set_option linter.unusedSimpArgs false
def T28 : Bool × List (List Nat × List Nat) := (true, [([], []), ([], []), ([0, 1], [0, 1]), ([2, 2], [2]), ([3], [3]), ([4, 3, 3], [3, 4]), ([3], [3]), ([6, 5, 3], [3, 6]), ([5, 7, 7, 3], [3, 5, 7]), ([3, 8], [3, 8]), ([9, 8, 0, 1, 2, 3, 4, 5, 6, 7, 8, 9], [9])])
def B28 : List Nat := [0, 0, 3, 7, 15, 31, 15, 127, 255, 511, 1023]
theorem tab28 : rtab .any (opsOf Try.f5 28) = T28 := by kernel_rfl
theorem bits28 : waitsOk T28.2 B28 = true := by kernel_rfl
theorem five_q {b : Nat} {W : World} {C0 C1 C2 C3 C4 : Option Addr} {l0 l1 l2 l3 l4 e0 e1 e2 e3 e4 : Nat} (r0 : R9 b W C0 l0) (r1 : R9 b W C1 l1) (r2 : R9 b W C2 l2) (r3 : R9 b W C3 l3) (r4 : R9 b W C4 l4) :
    ∀ q, q < 5 → ∃ A n c, (#[.slice C0 l0 e0, .slice C1 l1 e1, .slice C2 l2 e2, .slice C3 l3 e3, .slice C4 l4 e4] : Array Value)[q]? = some (.slice A n c) ∧ R9 b W A n := by
  intro q hq
  match q, hq with
  | 0, _ => exact ⟨C0, l0, e0, rfl, r0⟩
  | 1, _ => exact ⟨C1, l1, e1, rfl, r1⟩
  | 2, _ => exact ⟨C2, l2, e2, rfl, r2⟩
  | 3, _ => exact ⟨C3, l3, e3, rfl, r3⟩
  | 4, _ => exact ⟨C4, l4, e4, rfl, r4⟩
theorem R31.of {W : World} {b : Nat} {ok : Nat → Prop} {A : Option Addr} {n c : Nat} {xs : List S31} (h : k31.R 31 W b ok (.slice A n c) xs) : R31 b W A n := by
  obtain ⟨A', n', c', e, hr⟩ := S31_.of h
  injection e with e1 e2
  subst e1 e2
  exact hr
theorem R34.of {W : World} {b : Nat} {ok : Nat → Prop} {A : Option Addr} {n c : Nat} {xs : List S34} (h : k34.R 34 W b ok (.slice A n c) xs) : R34 b W A n := by
  obtain ⟨A', n', c', e, hr⟩ := S34_.of h
  injection e with e1 e2
  subst e1 e2
  exact hr
set_option maxHeartbeats 8000000 in
set_option maxRecDepth 100000 in
theorem law (a0 a1 a2 a3 : Int) (A4 : Option Addr) (c4 : Nat) (L : List S31) (A5 : Option Addr) (c5 : Nat) (S : List S34) (w : World) (HC : Aside0 (CC w A4 c4 A5 c5 L S)) :
    Calls Try.prog 5 #[.agg #[.int .i64 a0, .int .i64 a1, .int .i64 a2, .int .i64 a3, .slice A4 L.length c4, .slice A5 S.length c5]] w fun e w' => e = .returned (.bool true) ∧ Below w.heap.size w w' := by
  go_enter Try.func5, Try.ntmps5
  go_wp2_with (first | ((with_reducible refine gate_dst (N := 1) rfl ?_); refine box_event ?hg (N := 1) ?hd (cs := #[.int .i64 a0, .int .i64 a1, .int .i64 a2, .int .i64 a3, .slice A4 L.length c4, .slice A5 S.length c5]) (t := 25) ?hr ?_; (case hd => rfl); (case hg => rfl); (case hr => first | (go_simp; done) | (go_simp; rfl)); intro g1 hg w1 hbox hb; have HK := Aside0.mk (show Ks w w1 [(g1, #[.int .i64 a0, .int .i64 a1, .int .i64 a2, .int .i64 a3, .slice A4 L.length c4, .slice A5 S.length c5], 25)] from ⟨fun p hp => by rw [List.mem_singleton.1 hp]; exact hbox, hb⟩); replace HC := Aside0.mk (HC.out.below hb); clear hb hbox hg))
  refine (awake_any _).mono ?_
  rintro e w2 ⟨rfl, hb⟩
  replace HK := Aside0.mk (HK.out.below hb)
  replace HC := Aside0.mk (HC.out.below hb)
  clear hb
  have h1_0 : w2.cell? ⟨g1, 0, none⟩ = some (.int .i64 a0) := (blk_cell HK.out.head 0).trans rfl
  have h1_1 : w2.cell? ⟨g1, 1, none⟩ = some (.int .i64 a1) := (blk_cell HK.out.head 1).trans rfl
  have h1_2 : w2.cell? ⟨g1, 2, none⟩ = some (.int .i64 a2) := (blk_cell HK.out.head 2).trans rfl
  have h1_3 : w2.cell? ⟨g1, 3, none⟩ = some (.int .i64 a3) := (blk_cell HK.out.head 3).trans rfl
  have h1_4 : w2.cell? ⟨g1, 4, none⟩ = some (.slice A4 L.length c4) := (blk_cell HK.out.head 4).trans rfl
  have h1_5 : w2.cell? ⟨g1, 5, none⟩ = some (.slice A5 S.length c5) := (blk_cell HK.out.head 5).trans rfl
  go_wp2_with fail
  refine (small_cc a0 a1 a2 a3 A4 c4 L A5 c5 S _ HC.out).mono ?_
  rintro e w3 ⟨b, rfl, hsm, hb⟩
  replace HK := Aside0.mk (HK.out.below hb)
  replace HC := Aside0.mk (HC.out.below hb)
  clear hb h1_0 h1_1 h1_2 h1_3 h1_4 h1_5
  cases b with
  | false =>
    clear hsm
    go_wp2_with fail
    go_ret
    exact ⟨rfl, HK.out.hB⟩
  | true =>
    have HO := Aside0.mk (hsm rfl)
    have HO1 := Aside0.mk (Ok.more HO.out (by decide : 900 ≤ 1000))
    clear hsm
    have h1_0 : w3.cell? ⟨g1, 0, none⟩ = some (.int .i64 a0) := (blk_cell HK.out.head 0).trans rfl
    have h1_1 : w3.cell? ⟨g1, 1, none⟩ = some (.int .i64 a1) := (blk_cell HK.out.head 1).trans rfl
    have h1_2 : w3.cell? ⟨g1, 2, none⟩ = some (.int .i64 a2) := (blk_cell HK.out.head 2).trans rfl
    have h1_3 : w3.cell? ⟨g1, 3, none⟩ = some (.int .i64 a3) := (blk_cell HK.out.head 3).trans rfl
    have h1_4 : w3.cell? ⟨g1, 4, none⟩ = some (.slice A4 L.length c4) := (blk_cell HK.out.head 4).trans rfl
    have h1_5 : w3.cell? ⟨g1, 5, none⟩ = some (.slice A5 S.length c5) := (blk_cell HK.out.head 5).trans rfl
    go_wp2_with fail
    refine (copy_cc a0 a1 a2 a3 A4 c4 L A5 c5 S _ HC.out HO1.out).mono ?_
    rintro e w4 ⟨M4, m4, M5, m5, rfl, hcm, hb⟩
    replace HK := Aside0.mk (HK.out.below hb)
    replace HC := Aside0.mk (HC.out.below hb)
    have HM := Aside0.mk hcm
    clear hb hcm h1_0 h1_1 h1_2 h1_3 h1_4 h1_5
    go_wp2_with (first | ((with_reducible refine gate_dst (N := 19) rfl ?_); refine new_world ?_; intro w5 hbox hb; replace HK := Aside0.mk ((HK.out.below hb).cons hbox); replace HC := Aside0.mk (HC.out.below hb); replace HM := Aside0.mk (HM.out.below hb); clear hb hbox; have h3_0 : w5.cell? ⟨w4.heap.size, 0, none⟩ = some (.int .i64 a0) := (blk_cell HK.out.head 0).trans rfl; have h3_1 : w5.cell? ⟨w4.heap.size, 1, none⟩ = some (.int .i64 a1) := (blk_cell HK.out.head 1).trans rfl; have h3_2 : w5.cell? ⟨w4.heap.size, 2, none⟩ = some (.int .i64 a2) := (blk_cell HK.out.head 2).trans rfl; have h3_3 : w5.cell? ⟨w4.heap.size, 3, none⟩ = some (.int .i64 a3) := (blk_cell HK.out.head 3).trans rfl; have h3_4 : w5.cell? ⟨w4.heap.size, 4, none⟩ = some (.slice M4 L.length m4) := (blk_cell HK.out.head 4).trans rfl; have h3_5 : w5.cell? ⟨w4.heap.size, 5, none⟩ = some (.slice M5 S.length m5) := (blk_cell HK.out.head 5).trans rfl))
    refine (fill_cc a0 a1 a2 a3 M4 m4 L M5 m5 S _ HM.out HO1.out).mono ?_
    rintro e w6 ⟨D4, d4, D5, d5, rfl, q4, q5, -, hb⟩
    have HR4 := Aside0.mk (R31.of q4)
    have HR5 := Aside0.mk (R34.of q5)
    have HB5 := Aside0.mk hb
    have HLE := Aside0.mk HK.out.hB.size
    replace HK := Aside0.mk (HK.out.below hb)
    clear hb q4 q5 h3_0 h3_1 h3_2 h3_3 h3_4 h3_5
    have hNL := (Ok.fill HO.out).l
    have hNS := (Ok.fill HO.out).s
    obtain ⟨NL, eNL⟩ : ∃ n, n = (fillL L).length := ⟨_, rfl⟩
    obtain ⟨NS, eNS⟩ : ∃ n, n = (fillS S).length := ⟨_, rfl⟩
    rw [← eNL] at HR4 hNL ⊢
    rw [← eNS] at HR5 hNS ⊢
    clear eNL eNS
    go_wp2_with fail
    have hb := below_alloc (Below.refl _ w6) (.cells #[.int .i64 (orV a0 100), .int .i64 (orV a1 10), .int .i64 (orV a2 100), .int .i64 (orV a3 10), .slice D4 NL d4, .slice D5 NS d5] 25)
    replace HK := Aside0.mk ((HK.out.below hb).cons (blk_new w6 (.cells #[.int .i64 (orV a0 100), .int .i64 (orV a1 10), .int .i64 (orV a2 100), .int .i64 (orV a3 10), .slice D4 NL d4, .slice D5 NS d5] 25)))
    generalize w6.alloc (.cells #[.int .i64 (orV a0 100), .int .i64 (orV a1 10), .int .i64 (orV a2 100), .int .i64 (orV a3 10), .slice D4 NL d4, .slice D5 NS d5] 25) = w7 at HK hb ⊢
    have HZ : Aside0 (Z w w5 w7 [(w6.heap.size, #[.int .i64 (orV a0 100), .int .i64 (orV a1 10), .int .i64 (orV a2 100), .int .i64 (orV a3 10), .slice D4 NL d4, .slice D5 NS d5]), (w4.heap.size, #[.int .i64 a0, .int .i64 a1, .int .i64 a2, .int .i64 a3, .slice M4 L.length m4, .slice M5 S.length m5]), (g1, #[.int .i64 a0, .int .i64 a1, .int .i64 a2, .int .i64 a3, .slice A4 L.length c4, .slice A5 S.length c5])] D4 NL D5 NS) := ⟨⟨fun p hp => by
      rcases List.mem_cons.1 hp with rfl | hp
      · exact HK.out.head
      rcases List.mem_cons.1 hp with rfl | hp
      · exact HK.out.tail.head
      rw [List.mem_singleton.1 hp]
      exact HK.out.tail.tail.head, HK.out.hB, below_step HB5.out hb, HR4.out.keep (Keep.below hb), HR5.out.keep (Keep.below hb), HLE.out⟩⟩
    clear hb HK HB5 HR4 HR5 HLE
    generalize w6.heap.size = g4 at *
    generalize w4.heap.size = g3 at *
    go_loopw [5] (fun s wr => ∃ i : Nat, i ≤ NL ∧ s = .int .i64 i ∧ Z w w5 wr [(g4, #[.int .i64 (orV a0 100), .int .i64 (orV a1 10), .int .i64 (orV a2 100), .int .i64 (orV a3 10), .slice D4 NL d4, .slice D5 NS d5]), (g3, #[.int .i64 a0, .int .i64 a1, .int .i64 a2, .int .i64 a3, .slice M4 L.length m4, .slice M5 S.length m5]), (g1, #[.int .i64 a0, .int .i64 a1, .int .i64 a2, .int .i64 a3, .slice A4 L.length c4, .slice A5 S.length c5])] D4 NL D5 NS) (fun s _ => NL - (intOf s).toNat)
    case atStart => exact ⟨0, Nat.zero_le _, rfl, HZ.out⟩
    case round =>
      clear HZ
      obtain ⟨i, hi, rfl, hz⟩ := hrel
      have HZ := Aside0.mk hz
      clear hz
      have h4_4 : wr.cell? ⟨g4, 4, none⟩ = some (.slice D4 NL d4) := (blk_cell (HZ.out.hb _ List.mem_cons_self) 4).trans rfl
      by_cases hin : i < NL
      · have hc : decide ((i : Int) < (NL : Int)) = true := decide_eq_true (by omega)
        have p0 : (0 ≤ (i : Int)) = True := eq_true (by omega)
        have p1 : ((i : Int) < (NL : Int)) = True := eq_true (by omega)
        obtain ⟨g, cs, e, hle, hh, hsz, -⟩ := HZ.out.r31 (by omega)
        have HS : Aside0 (ZS _ _ _ _ _ _ _ _ g 31 (NL * 10)) := ⟨⟨HZ.out, ⟨⟨cs, hh, hsz.1⟩, hle⟩⟩⟩
        have Hin := Aside0.mk hin
        clear HZ hle hh hsz cs
        subst e
        have hadd : (⟨g, 0, none⟩ : Addr).add (i * 10) = ⟨g, i * 10, none⟩ := add_plain g (i * 10)
        obtain ⟨x0, hx0⟩ := HS.out.s.cell (i * 10) (by omega)
        have hf0 := HS.out.s.froz (i * 10)
        obtain ⟨x1, hx1⟩ := HS.out.s.cell (i * 10 + 1) (by omega)
        have hf1 := HS.out.s.froz (i * 10 + 1)
        obtain ⟨x2, hx2⟩ := HS.out.s.cell (i * 10 + 2) (by omega)
        have hf2 := HS.out.s.froz (i * 10 + 2)
        obtain ⟨x3, hx3⟩ := HS.out.s.cell (i * 10 + 3) (by omega)
        have hf3 := HS.out.s.froz (i * 10 + 3)
        obtain ⟨x4, hx4⟩ := HS.out.s.cell (i * 10 + 4) (by omega)
        have hf4 := HS.out.s.froz (i * 10 + 4)
        obtain ⟨x5, hx5⟩ := HS.out.s.cell (i * 10 + 5) (by omega)
        have hf5 := HS.out.s.froz (i * 10 + 5)
        obtain ⟨x6, hx6⟩ := HS.out.s.cell (i * 10 + 6) (by omega)
        have hf6 := HS.out.s.froz (i * 10 + 6)
        obtain ⟨x7, hx7⟩ := HS.out.s.cell (i * 10 + 7) (by omega)
        have hf7 := HS.out.s.froz (i * 10 + 7)
        obtain ⟨x8, hx8⟩ := HS.out.s.cell (i * 10 + 8) (by omega)
        have hf8 := HS.out.s.froz (i * 10 + 8)
        obtain ⟨x9, hx9⟩ := HS.out.s.cell (i * 10 + 9) (by omega)
        have hf9 := HS.out.s.froz (i * 10 + 9)
        go_wp2_with fail
        go_roundw
        case rel => exact ⟨i + 1, Hin.out, by first | exact rise' | exact rise Hin.out (by omega) | rfl, ((((((((((HS.out.set (by decide) (i * 10) (.string ⟨#[]⟩) (fun e => absurd e (by decide)) (fun e => absurd e (by decide))).set (by decide) (i * 10 + 1) (.int .i64 0) (fun e => absurd e (by decide)) (fun e => absurd e (by decide))).set (by decide) (i * 10 + 2) (.int .i64 0) (fun e => absurd e (by decide)) (fun e => absurd e (by decide))).set (by decide) (i * 10 + 3) (.int .i64 0) (fun e => absurd e (by decide)) (fun e => absurd e (by decide))).set (by decide) (i * 10 + 4) (.int .i64 0) (fun e => absurd e (by decide)) (fun e => absurd e (by decide))).set (by decide) (i * 10 + 5) (.int .i64 0) (fun e => absurd e (by decide)) (fun e => absurd e (by decide))).set (by decide) (i * 10 + 6) (.int .i64 0) (fun e => absurd e (by decide)) (fun e => absurd e (by decide))).set (by decide) (i * 10 + 7) (.int .i64 0) (fun e => absurd e (by decide)) (fun e => absurd e (by decide))).set (by decide) (i * 10 + 8) (.int .i64 0) (fun e => absurd e (by decide)) (fun e => absurd e (by decide))).set (by decide) (i * 10 + 9) (.int .i64 0) (fun e => absurd e (by decide)) (fun e => absurd e (by decide))).z⟩
        case measure => first | exact fall' Hin.out | exact fall Hin.out (by omega)
      · have hc : decide ((i : Int) < (NL : Int)) = false := decide_eq_false (by omega)
        go_wp2_with fail
        go_loopw [6] (fun s wr => ∃ i : Nat, i ≤ NS ∧ s = .int .i64 i ∧ Z w w5 wr [(g4, #[.int .i64 (orV a0 100), .int .i64 (orV a1 10), .int .i64 (orV a2 100), .int .i64 (orV a3 10), .slice D4 NL d4, .slice D5 NS d5]), (g3, #[.int .i64 a0, .int .i64 a1, .int .i64 a2, .int .i64 a3, .slice M4 L.length m4, .slice M5 S.length m5]), (g1, #[.int .i64 a0, .int .i64 a1, .int .i64 a2, .int .i64 a3, .slice A4 L.length c4, .slice A5 S.length c5])] D4 NL D5 NS) (fun s _ => NS - (intOf s).toNat)
        case atStart => exact ⟨0, Nat.zero_le _, rfl, HZ.out⟩
        case round =>
          clear HZ
          obtain ⟨i, hi, rfl, hz⟩ := hrel
          have HZ := Aside0.mk hz
          clear hz
          have h4_5 : wr.cell? ⟨g4, 5, none⟩ = some (.slice D5 NS d5) := (blk_cell (HZ.out.hb _ List.mem_cons_self) 5).trans rfl
          by_cases hin : i < NS
          · have hc : decide ((i : Int) < (NS : Int)) = true := decide_eq_true (by omega)
            have p0 : (0 ≤ (i : Int)) = True := eq_true (by omega)
            have p1 : ((i : Int) < (NS : Int)) = True := eq_true (by omega)
            obtain ⟨g, cs, e, hle, hh, hsz, hq⟩ := HZ.out.r34 (by omega)
            obtain ⟨u, hu⟩ : ∃ u, cs[i * 5 + 4]? = some u := ⟨_, Array.getElem?_eq_getElem (by omega)⟩
            obtain ⟨Ar, nr, cr, eu, hr⟩ := hq (i * 5 + 4) u (by omega) hu (by omega)
            subst eu
            have HY : Aside0 (Y _ _ _ _ _ _ _ _ g i Ar nr cr) := ⟨⟨HZ.out, ⟨cs, hh, hu⟩, hr⟩⟩
            have HLG := Aside0.mk hle
            have Hin := Aside0.mk hin
            clear HZ hle hh hsz hq hu hr cs
            subst e
            have hadd : (⟨g, 0, none⟩ : Addr).add (i * 5) = ⟨g, i * 5, none⟩ := add_plain g (i * 5)
            have hcr : wr.cell? ⟨g, i * 5 + 4, none⟩ = some (.slice Ar nr cr) := HY.out.cell
            go_wp2_with fail
            go_loopw [7] (fun s wr => ∃ k : Nat, k ≤ nr ∧ s = .int .i64 k ∧ Y w w5 wr [(g4, #[.int .i64 (orV a0 100), .int .i64 (orV a1 10), .int .i64 (orV a2 100), .int .i64 (orV a3 10), .slice D4 NL d4, .slice (some ⟨g, 0, none⟩) NS d5]), (g3, #[.int .i64 a0, .int .i64 a1, .int .i64 a2, .int .i64 a3, .slice M4 L.length m4, .slice M5 S.length m5]), (g1, #[.int .i64 a0, .int .i64 a1, .int .i64 a2, .int .i64 a3, .slice A4 L.length c4, .slice A5 S.length c5])] D4 NL (some ⟨g, 0, none⟩) NS g i Ar nr cr) (fun s _ => nr - (intOf s).toNat)
            case atStart => exact ⟨0, Nat.zero_le _, rfl, HY.out⟩
            case round =>
              clear h4_5 hcr HY
              obtain ⟨k, hk, rfl, hy⟩ := hrel
              have HY := Aside0.mk hy
              clear hy
              have h4_5 : wr.cell? ⟨g4, 5, none⟩ = some (.slice (some ⟨g, 0, none⟩) NS d5) := (blk_cell (HY.out.z.hb _ List.mem_cons_self) 5).trans rfl
              have hcr : wr.cell? ⟨g, i * 5 + 4, none⟩ = some (.slice Ar nr cr) := HY.out.cell
              by_cases hkn : k < nr
              · have hc3 : decide ((k : Int) < (nr : Int)) = true := decide_eq_true (by omega)
                have p2 : (0 ≤ (k : Int)) = True := eq_true (by omega)
                have p3 : ((k : Int) < (nr : Int)) = True := eq_true (by omega)
                obtain ⟨g7, cs7, e7, hle7, hh7, hsz7, hq7⟩ := HY.out.r37 (by omega)
                obtain ⟨u0_, hu0⟩ : ∃ u, cs7[k * 5]? = some u := ⟨_, Array.getElem?_eq_getElem (by omega)⟩
                obtain ⟨C0, l0, e0, f0, r0⟩ := hq7 (k * 5) u0_ (by omega) hu0
                subst f0
                have y0 : wr.cell? ⟨g7, k * 5, none⟩ = some (.slice C0 l0 e0) := (blk_cell hh7 _).trans hu0
                have Q0 : Aside0 (R9 w5.heap.size wr C0 l0) := ⟨r0⟩
                obtain ⟨u1_, hu1⟩ : ∃ u, cs7[k * 5 + 1]? = some u := ⟨_, Array.getElem?_eq_getElem (by omega)⟩
                obtain ⟨C1, l1, e1, f1, r1⟩ := hq7 (k * 5 + 1) u1_ (by omega) hu1
                subst f1
                have y1 : wr.cell? ⟨g7, k * 5 + 1, none⟩ = some (.slice C1 l1 e1) := (blk_cell hh7 _).trans hu1
                have Q1 : Aside0 (R9 w5.heap.size wr C1 l1) := ⟨r1⟩
                obtain ⟨u2_, hu2⟩ : ∃ u, cs7[k * 5 + 2]? = some u := ⟨_, Array.getElem?_eq_getElem (by omega)⟩
                obtain ⟨C2, l2, e2, f2, r2⟩ := hq7 (k * 5 + 2) u2_ (by omega) hu2
                subst f2
                have y2 : wr.cell? ⟨g7, k * 5 + 2, none⟩ = some (.slice C2 l2 e2) := (blk_cell hh7 _).trans hu2
                have Q2 : Aside0 (R9 w5.heap.size wr C2 l2) := ⟨r2⟩
                obtain ⟨u3_, hu3⟩ : ∃ u, cs7[k * 5 + 3]? = some u := ⟨_, Array.getElem?_eq_getElem (by omega)⟩
                obtain ⟨C3, l3, e3, f3, r3⟩ := hq7 (k * 5 + 3) u3_ (by omega) hu3
                subst f3
                have y3 : wr.cell? ⟨g7, k * 5 + 3, none⟩ = some (.slice C3 l3 e3) := (blk_cell hh7 _).trans hu3
                have Q3 : Aside0 (R9 w5.heap.size wr C3 l3) := ⟨r3⟩
                obtain ⟨u4_, hu4⟩ : ∃ u, cs7[k * 5 + 4]? = some u := ⟨_, Array.getElem?_eq_getElem (by omega)⟩
                obtain ⟨C4, l4, e4, f4, r4⟩ := hq7 (k * 5 + 4) u4_ (by omega) hu4
                subst f4
                have y4 : wr.cell? ⟨g7, k * 5 + 4, none⟩ = some (.slice C4 l4 e4) := (blk_cell hh7 _).trans hu4
                have Q4 : Aside0 (R9 w5.heap.size wr C4 l4) := ⟨r4⟩
                have Hkn := Aside0.mk hkn
                have Br := Aside0.mk hsz7.2
                clear hle7 hh7 hsz7 hq7 hu0 r0 hu1 r1 hu2 r2 hu3 r3 hu4 r4
                subst e7
                have hadd7 : (⟨g7, 0, none⟩ : Addr).add (k * 5) = ⟨g7, k * 5, none⟩ := add_plain g7 (k * 5)
                go_wp2_with (first | ((with_reducible refine gate_dst (N := 60) rfl ?_); refine new_world ?_; intro W3 hbox hb; replace HY := Aside0.mk (HY.out.below hb); have h8_0 : W3.cell? ⟨wr.heap.size, 0, none⟩ = some (.slice C0 l0 e0) := (blk_cell hbox 0).trans rfl; have h8_1 : W3.cell? ⟨wr.heap.size, 1, none⟩ = some (.slice C1 l1 e1) := (blk_cell hbox 1).trans rfl; have h8_2 : W3.cell? ⟨wr.heap.size, 2, none⟩ = some (.slice C2 l2 e2) := (blk_cell hbox 2).trans rfl; have h8_3 : W3.cell? ⟨wr.heap.size, 3, none⟩ = some (.slice C3 l3 e3) := (blk_cell hbox 3).trans rfl; have h8_4 : W3.cell? ⟨wr.heap.size, 4, none⟩ = some (.slice C4 l4 e4) := (blk_cell hbox 4).trans rfl; replace Q0 : Aside0 (R9 w5.heap.size W3 C0 l0) := ⟨Q0.out.keep (Keep.below hb)⟩; replace Q1 : Aside0 (R9 w5.heap.size W3 C1 l1) := ⟨Q1.out.keep (Keep.below hb)⟩; replace Q2 : Aside0 (R9 w5.heap.size W3 C2 l2) := ⟨Q2.out.keep (Keep.below hb)⟩; replace Q3 : Aside0 (R9 w5.heap.size W3 C3 l3) := ⟨Q3.out.keep (Keep.below hb)⟩; replace Q4 : Aside0 (R9 w5.heap.size W3 C4 l4) := ⟨Q4.out.keep (Keep.below hb)⟩; clear hb hbox h4_5 hcr y0 y1 y2 y3 y4) | ((with_reducible refine gate_dst (N := 71) rfl ?_); refine new_world ?_; intro W4 hbox hb; have HX : Aside0 (X w w5 W4 [(g4, #[.int .i64 (orV a0 100), .int .i64 (orV a1 10), .int .i64 (orV a2 100), .int .i64 (orV a3 10), .slice D4 NL d4, .slice (some ⟨g, 0, none⟩) NS d5]), (g3, #[.int .i64 a0, .int .i64 a1, .int .i64 a2, .int .i64 a3, .slice M4 L.length m4, .slice M5 S.length m5]), (g1, #[.int .i64 a0, .int .i64 a1, .int .i64 a2, .int .i64 a3, .slice A4 L.length c4, .slice A5 S.length c5])] D4 NL (some ⟨g, 0, none⟩) NS g i (some ⟨g7, 0, none⟩) nr cr W3.heap.size #[.slice C0 l0 e0, .slice C1 l1 e1, .slice C2 l2 e2, .slice C3 l3 e3, .slice C4 l4 e4]) := ⟨⟨HY.out.below hb, hbox, five_q (Q0.out.keep (Keep.below hb)) (Q1.out.keep (Keep.below hb)) (Q2.out.keep (Keep.below hb)) (Q3.out.keep (Keep.below hb)) (Q4.out.keep (Keep.below hb))⟩⟩; clear hb hbox HY h8_0 h8_1 h8_2 h8_3 h8_4 Q0 Q1 Q2 Q3 Q4))
                generalize wr.heap.size = g8 at *
                generalize W3.heap.size = g9 at *
                go_loopw [72] (fun s wr => ∃ q : Nat, q ≤ 5 ∧ s = .int .i64 q ∧ X w w5 wr [(g4, #[.int .i64 (orV a0 100), .int .i64 (orV a1 10), .int .i64 (orV a2 100), .int .i64 (orV a3 10), .slice D4 NL d4, .slice (some ⟨g, 0, none⟩) NS d5]), (g3, #[.int .i64 a0, .int .i64 a1, .int .i64 a2, .int .i64 a3, .slice M4 L.length m4, .slice M5 S.length m5]), (g1, #[.int .i64 a0, .int .i64 a1, .int .i64 a2, .int .i64 a3, .slice A4 L.length c4, .slice A5 S.length c5])] D4 NL (some ⟨g, 0, none⟩) NS g i (some ⟨g7, 0, none⟩) nr cr g9 #[.slice C0 l0 e0, .slice C1 l1 e1, .slice C2 l2 e2, .slice C3 l3 e3, .slice C4 l4 e4]) (fun s _ => 5 - (intOf s).toNat)
                case atStart => exact ⟨0, Nat.zero_le _, rfl, HX.out⟩
                case round =>
                  clear HX
                  obtain ⟨q, hq_, rfl, hx⟩ := hrel
                  have HX := Aside0.mk hx
                  clear hx
                  by_cases hqn : q < 5
                  · have hc4 : decide ((q : Int) < 5) = true := decide_eq_true (by omega)
                    have p4 : (0 ≤ (q : Int)) = True := eq_true (by omega)
                    have p5 : ((q : Int) < 5) = True := eq_true (by omega)
                    obtain ⟨Aq, nq, cq, hcq0, hrq⟩ := HX.out.q q hqn
                    have hcq : wr.cell? ⟨g9, q, none⟩ = some (.slice Aq nq cq) := (blk_cell HX.out.b9 q).trans hcq0
                    have HRq := Aside0.mk hrq
                    have Hqn := Aside0.mk hqn
                    clear hcq0 hrq
                    go_wp2_with fail
                    go_loopw [11] (fun s wr => ∃ z : Nat, z ≤ nq ∧ s = .int .i64 z ∧ X w w5 wr [(g4, #[.int .i64 (orV a0 100), .int .i64 (orV a1 10), .int .i64 (orV a2 100), .int .i64 (orV a3 10), .slice D4 NL d4, .slice (some ⟨g, 0, none⟩) NS d5]), (g3, #[.int .i64 a0, .int .i64 a1, .int .i64 a2, .int .i64 a3, .slice M4 L.length m4, .slice M5 S.length m5]), (g1, #[.int .i64 a0, .int .i64 a1, .int .i64 a2, .int .i64 a3, .slice A4 L.length c4, .slice A5 S.length c5])] D4 NL (some ⟨g, 0, none⟩) NS g i (some ⟨g7, 0, none⟩) nr cr g9 #[.slice C0 l0 e0, .slice C1 l1 e1, .slice C2 l2 e2, .slice C3 l3 e3, .slice C4 l4 e4] ∧ R9 w5.heap.size wr Aq nq) (fun s _ => nq - (intOf s).toNat)
                    case atStart => exact ⟨0, Nat.zero_le _, rfl, HX.out, HRq.out⟩
                    case round =>
                      clear HX HRq hcq
                      obtain ⟨z, hz_, rfl, hx, hr9⟩ := hrel
                      have HX := Aside0.mk hx
                      have HRq := Aside0.mk hr9
                      clear hx hr9
                      by_cases hzn : z < nq
                      · have hc5 : decide ((z : Int) < (nq : Int)) = true := decide_eq_true (by omega)
                        have p6 : (0 ≤ (z : Int)) = True := eq_true (by omega)
                        have p7 : ((z : Int) < (nq : Int)) = True := eq_true (by omega)
                        obtain ⟨gt, cst, et, hlt, hht, hst, -⟩ := HRq.out (by omega)
                        have HT : Aside0 (Spot w5 wr gt 9 nq) := ⟨⟨⟨cst, hht, by omega⟩, hlt⟩⟩
                        have Bq := Aside0.mk hst.2
                        have Hzn := Aside0.mk hzn
                        clear hlt hht hst cst
                        subst et
                        obtain ⟨xt, hxt⟩ := HT.out.cell z (by omega)
                        have hft := HT.out.froz z
                        go_wp2_with fail
                        go_roundw
                        case rel => exact ⟨z + 1, Hzn.out, by first | exact rise' | exact rise2 Hzn.out Bq.out, HX.out.set9 HT.out z _, HRq.out.keep (HT.out.keep z _ (fun e => absurd e (by decide)) (fun e => absurd e (by decide)))⟩
                        case measure => first | exact fall' Hzn.out | exact fall2 Hzn.out Bq.out
                      · have hc5 : decide ((z : Int) < (nq : Int)) = false := decide_eq_false (by omega)
                        go_wp2_with fail
                        go_roundw
                        case rel => exact ⟨q + 1, Hqn.out, by first | exact rise' | exact rise2 Hqn.out (by omega), HX.out⟩
                        case measure => first | exact fall' Hqn.out | exact fall2 Hqn.out (by omega)
                  · have e : q = 5 := by omega
                    subst e
                    have hc4 : decide ((((5 : Nat)) : Int) < 5) = false := decide_eq_false (by omega)
                    have HY := Aside0.mk HX.out.y
                    clear HX
                    have h4_5 : wr.cell? ⟨g4, 5, none⟩ = some (.slice (some ⟨g, 0, none⟩) NS d5) := (blk_cell (HY.out.z.hb _ List.mem_cons_self) 5).trans rfl
                    have hcr : wr.cell? ⟨g, i * 5 + 4, none⟩ = some (.slice (some ⟨g7, 0, none⟩) nr cr) := HY.out.cell
                    obtain ⟨g7', cs7, e7, hle7, hh7, hsz7, -⟩ := HY.out.r37 (by have := Hkn.out; omega)
                    obtain rfl : g7 = g7' := by injection e7 with e7; injection e7
                    have HS : Aside0 (YS _ _ _ _ _ _ _ _ g i _ nr cr g7 37 (nr * 5)) := ⟨⟨HY.out, ⟨⟨cs7, hh7, hsz7.1⟩, hle7⟩⟩⟩
                    clear hle7 hh7 hsz7 cs7 e7 HY
                    obtain ⟨x0, hx0⟩ := HS.out.s.cell (k * 5) (by have := Hkn.out; omega)
                    have hf0 := HS.out.s.froz (k * 5)
                    obtain ⟨x1, hx1⟩ := HS.out.s.cell (k * 5 + 1) (by have := Hkn.out; omega)
                    have hf1 := HS.out.s.froz (k * 5 + 1)
                    obtain ⟨x2, hx2⟩ := HS.out.s.cell (k * 5 + 2) (by have := Hkn.out; omega)
                    have hf2 := HS.out.s.froz (k * 5 + 2)
                    obtain ⟨x3, hx3⟩ := HS.out.s.cell (k * 5 + 3) (by have := Hkn.out; omega)
                    have hf3 := HS.out.s.froz (k * 5 + 3)
                    obtain ⟨x4, hx4⟩ := HS.out.s.cell (k * 5 + 4) (by have := Hkn.out; omega)
                    have hf4 := HS.out.s.froz (k * 5 + 4)
                    go_wp2_with fail
                    go_roundw
                    case rel => exact ⟨k + 1, Hkn.out, by first | exact rise' | exact rise2 Hkn.out Br.out, (((((HS.out.set (by decide) (by decide) (k * 5) (.slice none 0 0) (fun _ => rfl)).set (by decide) (by decide) (k * 5 + 1) (.slice none 0 0) (fun _ => rfl)).set (by decide) (by decide) (k * 5 + 2) (.slice none 0 0) (fun _ => rfl)).set (by decide) (by decide) (k * 5 + 3) (.slice none 0 0) (fun _ => rfl)).set (by decide) (by decide) (k * 5 + 4) (.slice none 0 0) (fun _ => rfl)).y⟩
                    case measure => first | exact fall' Hkn.out | exact fall2 Hkn.out Br.out
              · have hc3 : decide ((k : Int) < (nr : Int)) = false := decide_eq_false (by omega)
                have HZ := Aside0.mk HY.out.z
                obtain ⟨cs, hh, -⟩ := HY.out.p
                obtain ⟨g', cs', e', hle', hh', hsz', -⟩ := HZ.out.r34 (by have := Hin.out; omega)
                obtain rfl : g = g' := by injection e' with e'; injection e'
                have HS : Aside0 (ZS _ _ _ _ _ _ _ _ g 34 (NS * 5)) := ⟨⟨HZ.out, ⟨⟨cs', hh', hsz'.1⟩, hle'⟩⟩⟩
                clear hle' hh' hsz' cs' e' hh cs HZ HY
                obtain ⟨x0, hx0⟩ := HS.out.s.cell (i * 5) (by have := Hin.out; omega)
                have hf0 := HS.out.s.froz (i * 5)
                obtain ⟨x1, hx1⟩ := HS.out.s.cell (i * 5 + 1) (by have := Hin.out; omega)
                have hf1 := HS.out.s.froz (i * 5 + 1)
                obtain ⟨x2, hx2⟩ := HS.out.s.cell (i * 5 + 2) (by have := Hin.out; omega)
                have hf2 := HS.out.s.froz (i * 5 + 2)
                obtain ⟨x3, hx3⟩ := HS.out.s.cell (i * 5 + 3) (by have := Hin.out; omega)
                have hf3 := HS.out.s.froz (i * 5 + 3)
                have hf4 := HS.out.s.froz (i * 5 + 4)
                go_wp2_with fail
                go_roundw
                case rel => exact ⟨i + 1, Hin.out, by first | exact rise' | exact rise2 Hin.out (by omega), (((((HS.out.set (by decide) (i * 5) (.string ⟨#[]⟩) (fun e => absurd e (by decide)) (fun _ h => by omega)).set (by decide) (i * 5 + 1) (.string ⟨#[]⟩) (fun e => absurd e (by decide)) (fun _ h => by omega)).set (by decide) (i * 5 + 2) (.int .i64 0) (fun e => absurd e (by decide)) (fun _ h => by omega)).set (by decide) (i * 5 + 3) (.int .i64 0) (fun e => absurd e (by decide)) (fun _ h => by omega)).set (by decide) (i * 5 + 4) (.slice none 0 0) (fun e => absurd e (by decide)) (fun _ h => rfl)).z⟩
                case measure => first | exact fall' Hin.out | exact fall2 Hin.out (by omega)
          · have hc : decide ((i : Int) < (NS : Int)) = false := decide_eq_false (by omega)
            go_wp2_with fail
            have HK : Aside0 (Ks w wr [(g3, #[.int .i64 a0, .int .i64 a1, .int .i64 a2, .int .i64 a3, .slice M4 L.length m4, .slice M5 S.length m5], 25), (g1, #[.int .i64 a0, .int .i64 a1, .int .i64 a2, .int .i64 a3, .slice A4 L.length c4, .slice A5 S.length c5], 25)]) := ⟨⟨fun p hp => by
              rcases List.mem_cons.1 hp with rfl | hp
              · exact HZ.out.hb _ (List.mem_cons_of_mem _ List.mem_cons_self)
              rw [List.mem_singleton.1 hp]
              exact HZ.out.hb _ (List.mem_cons_of_mem _ (List.mem_cons_of_mem _ List.mem_cons_self)), HZ.out.hB⟩⟩
            replace HC := Aside0.mk (HC.out.below HZ.out.hB5)
            replace HM := Aside0.mk (HM.out.below HZ.out.hB5)
            clear HZ
            refine start_ (n := 11) (S := fun w' => w'.cell? ⟨g3, 0, none⟩ = some (.int .i64 a0) ∧ w'.cell? ⟨g3, 1, none⟩ = some (.int .i64 a1) ∧ w'.cell? ⟨g3, 2, none⟩ = some (.int .i64 a2) ∧ w'.cell? ⟨g3, 3, none⟩ = some (.int .i64 a3) ∧ w'.cell? ⟨g3, 4, none⟩ = some (.slice M4 L.length m4) ∧ w'.cell? ⟨g3, 5, none⟩ = some (.slice M5 S.length m5) ∧ w'.cell? ⟨g1, 0, none⟩ = some (.int .i64 a0) ∧ w'.cell? ⟨g1, 1, none⟩ = some (.int .i64 a1) ∧ w'.cell? ⟨g1, 2, none⟩ = some (.int .i64 a2) ∧ w'.cell? ⟨g1, 3, none⟩ = some (.int .i64 a3) ∧ w'.cell? ⟨g1, 4, none⟩ = some (.slice A4 L.length c4) ∧ w'.cell? ⟨g1, 5, none⟩ = some (.slice A5 S.length c5)) (ds := []) #[false, false, false, false, false, false, false, false, false, false, false] (by kernel_rfl) rfl rfl ⟨(blk_cell HK.out.head 0).trans rfl, (blk_cell HK.out.head 1).trans rfl, (blk_cell HK.out.head 2).trans rfl, (blk_cell HK.out.head 3).trans rfl, (blk_cell HK.out.head 4).trans rfl, (blk_cell HK.out.head 5).trans rfl, (blk_cell HK.out.tail.head 0).trans rfl, (blk_cell HK.out.tail.head 1).trans rfl, (blk_cell HK.out.tail.head 2).trans rfl, (blk_cell HK.out.tail.head 3).trans rfl, (blk_cell HK.out.tail.head 4).trans rfl, (blk_cell HK.out.tail.head 5).trans rfl⟩ (fun hHeld => ?_); refine with_tabW tab28 bits28 (fun HT_ HW_ => ?_)
            have hb := below_drew (Below.refl wr.heap.size wr)
            replace HK := Aside0.mk (HK.out.below hb)
            replace HC := Aside0.mk (HC.out.below hb)
            replace HM := Aside0.mk (HM.out.below hb)
            clear hb
            generalize wr.drew = x0_ at HK HC HM hHeld ⊢
            refine take_ (i := 0) (N := some 100) (v := ?_) (a' := ?_) #[true, false, false, false, false, false, false, false, false, false, false] rfl rfl (take_ofW HT_.out HW_.out (by kernel_rfl)) (fun _ _ _ h => h) (Or.inl ⟨by rfl, ?_⟩) hHeld ?_ ?_
            rotate_left
            · rintro w' ⟨s0, s1, s2, s3, s4, s5, s6, s7, s8, s9, s10, s11⟩
              go_simp
              with_reducible rfl
            rotate_left
            · simp only [Act.put, List.setIfInBounds_toArray, List.set_cons_zero, List.set_cons_succ, i64_w, i32_w]
              rfl
            refine take_ (i := 1) (N := some 101) (v := ?_) (a' := ?_) #[true, true, false, false, false, false, false, false, false, false, false] rfl rfl (take_ofW HT_.out HW_.out (by kernel_rfl)) (fun _ _ _ h => h) (Or.inl ⟨by rfl, ?_⟩) hHeld ?_ ?_
            rotate_left
            · rintro w' ⟨s0, s1, s2, s3, s4, s5, s6, s7, s8, s9, s10, s11⟩
              go_simp
              with_reducible rfl
            rotate_left
            · simp only [Act.put, List.setIfInBounds_toArray, List.set_cons_zero, List.set_cons_succ, i64_w, i32_w]
              rfl
            refine one_ (i := 2) (N := some 102) #[true, true, true, false, false, false, false, false, false, false, false] rfl rfl (one_of HT_.out (by kernel_rfl)) (by decide) (fun K hK => ?_)
            refine goes_ Try.func15 (by kernel_rfl) rfl #[.agg #[.int .i64 a0, .int .i64 a1, .int .i64 a2, .int .i64 a3, .slice M4 L.length m4, .slice M5 S.length m5], .agg #[.int .i64 a0, .int .i64 a1, .int .i64 a2, .int .i64 a3, .slice A4 L.length c4, .slice A5 S.length c5]] (by rfl) rfl rfl (by (try simp only [List.map_toArray, List.map_cons, List.map_nil]); first | done | rfl) ?_
            refine (same_cc a0 a1 a2 a3 M4 A4 m4 c4 L M5 A5 m5 c5 S _ HM.out HC.out HO1.out).mono ?_
            rintro e x1_ ⟨rfl, hb⟩
            refine ⟨_, rfl, ?_⟩
            replace HK := Aside0.mk (HK.out.below hb)
            replace HC := Aside0.mk (HC.out.below hb)
            replace HM := Aside0.mk (HM.out.below hb)
            clear hb
            refine hK.out _ _ ⟨(blk_cell HK.out.head 0).trans rfl, (blk_cell HK.out.head 1).trans rfl, (blk_cell HK.out.head 2).trans rfl, (blk_cell HK.out.head 3).trans rfl, (blk_cell HK.out.head 4).trans rfl, (blk_cell HK.out.head 5).trans rfl, (blk_cell HK.out.tail.head 0).trans rfl, (blk_cell HK.out.tail.head 1).trans rfl, (blk_cell HK.out.tail.head 2).trans rfl, (blk_cell HK.out.tail.head 3).trans rfl, (blk_cell HK.out.tail.head 4).trans rfl, (blk_cell HK.out.tail.head 5).trans rfl⟩ (fun hHeld => ?_)
            clear hK K
            refine norm_ (a' := ?_) ?_ ?_
            rotate_left
            · show Act.put _ (some 102) _ = _
              simp only [Act.put, List.setIfInBounds_toArray, List.set_cons_zero, List.set_cons_succ, i64_w, i32_w]
              rfl
            refine pure_ (i := 3) (N := some 103) (v := ?_) (a' := ?_) #[true, true, true, true, false, false, false, false, false, false, false] rfl rfl (any_of HT_.out (by kernel_rfl)) (fun _ _ _ h => h) (Or.inl ⟨by rfl, ?_⟩) ?_ ?_
            rotate_left
            · intro w'
              go_simp
              with_reducible rfl
            rotate_left
            · simp only [Act.put, List.setIfInBounds_toArray, List.set_cons_zero, List.set_cons_succ, i64_w, i32_w]
              rfl
            refine take_ (i := 4) (N := some 104) (v := ?_) (a' := ?_) #[true, true, true, true, true, false, false, false, false, false, false] rfl rfl (take_ofW HT_.out HW_.out (by kernel_rfl)) (fun _ _ _ h => h) (Or.inl ⟨by rfl, ?_⟩) hHeld ?_ ?_
            rotate_left
            · rintro w' ⟨s0, s1, s2, s3, s4, s5, s6, s7, s8, s9, s10, s11⟩
              go_simp
              with_reducible rfl
            rotate_left
            · simp only [Act.put, List.setIfInBounds_toArray, List.set_cons_zero, List.set_cons_succ, i64_w, i32_w]
              rfl
            refine take_ (i := 6) (N := some 106) (v := ?_) (a' := ?_) #[true, true, true, true, true, false, true, false, false, false, false] rfl rfl (take_ofW HT_.out HW_.out (by kernel_rfl)) (fun _ _ _ h => h) (Or.inl ⟨by rfl, ?_⟩) hHeld ?_ ?_
            rotate_left
            · rintro w' ⟨s0, s1, s2, s3, s4, s5, s6, s7, s8, s9, s10, s11⟩
              go_simp
              with_reducible rfl
            rotate_left
            · simp only [Act.put, List.setIfInBounds_toArray, List.set_cons_zero, List.set_cons_succ, i64_w, i32_w]
              rfl
            refine one_ (i := 5) (N := some 105) #[true, true, true, true, true, true, true, false, false, false, false] rfl rfl (one_of HT_.out (by kernel_rfl)) (by decide) (fun K hK => ?_)
            refine goes_ Try.func14 (by kernel_rfl) rfl #[.agg #[.int .i64 a0, .int .i64 a1, .int .i64 a2, .int .i64 a3, .slice M4 L.length m4, .slice M5 S.length m5]] (by rfl) rfl rfl (by (try simp only [List.map_toArray, List.map_cons, List.map_nil]); first | done | rfl) ?_
            refine (fill_cc a0 a1 a2 a3 M4 m4 L M5 m5 S _ HM.out HO1.out).mono ?_
            rintro e x2_ ⟨F4, f4, F5, f5, rfl, -, -, hcf, hb⟩
            refine ⟨_, rfl, ?_⟩
            replace HK := Aside0.mk (HK.out.below hb)
            replace HC := Aside0.mk (HC.out.below hb)
            replace HM := Aside0.mk (HM.out.below hb)
            have HF := Aside0.mk hcf
            clear hb hcf
            refine hK.out _ _ ⟨(blk_cell HK.out.head 0).trans rfl, (blk_cell HK.out.head 1).trans rfl, (blk_cell HK.out.head 2).trans rfl, (blk_cell HK.out.head 3).trans rfl, (blk_cell HK.out.head 4).trans rfl, (blk_cell HK.out.head 5).trans rfl, (blk_cell HK.out.tail.head 0).trans rfl, (blk_cell HK.out.tail.head 1).trans rfl, (blk_cell HK.out.tail.head 2).trans rfl, (blk_cell HK.out.tail.head 3).trans rfl, (blk_cell HK.out.tail.head 4).trans rfl, (blk_cell HK.out.tail.head 5).trans rfl⟩ (fun hHeld => ?_)
            clear hK K
            refine norm_ (a' := ?_) ?_ ?_
            rotate_left
            · show Act.put _ (some 105) _ = _
              simp only [Act.put, List.setIfInBounds_toArray, List.set_cons_zero, List.set_cons_succ, i64_w, i32_w]
              rfl
            refine one_ (i := 7) (N := some 107) #[true, true, true, true, true, true, true, true, false, false, false] rfl rfl (one_of HT_.out (by kernel_rfl)) (by decide) (fun K hK => ?_)
            refine goes_ Try.func16 (by kernel_rfl) rfl #[.agg #[.int .i64 a0, .int .i64 a1, .int .i64 a2, .int .i64 a3, .slice A4 L.length c4, .slice A5 S.length c5]] (by rfl) rfl rfl (by (try simp only [List.map_toArray, List.map_cons, List.map_nil]); first | done | rfl) ?_
            refine (ref_any a0 a1 a2 a3 A4 c4 L A5 c5 S _ HC.out HO1.out).mono ?_
            rintro e x3_ ⟨R4, r4, R5, r5, rfl, hcr, hb⟩
            refine ⟨_, rfl, ?_⟩
            replace HK := Aside0.mk (HK.out.below hb)
            replace HC := Aside0.mk (HC.out.below hb)
            replace HM := Aside0.mk (HM.out.below hb)
            replace HF := Aside0.mk (HF.out.below hb)
            have HR := Aside0.mk hcr
            clear hb hcr
            refine hK.out _ _ ⟨(blk_cell HK.out.head 0).trans rfl, (blk_cell HK.out.head 1).trans rfl, (blk_cell HK.out.head 2).trans rfl, (blk_cell HK.out.head 3).trans rfl, (blk_cell HK.out.head 4).trans rfl, (blk_cell HK.out.head 5).trans rfl, (blk_cell HK.out.tail.head 0).trans rfl, (blk_cell HK.out.tail.head 1).trans rfl, (blk_cell HK.out.tail.head 2).trans rfl, (blk_cell HK.out.tail.head 3).trans rfl, (blk_cell HK.out.tail.head 4).trans rfl, (blk_cell HK.out.tail.head 5).trans rfl⟩ (fun hHeld => ?_)
            clear hK K
            refine norm_ (a' := ?_) ?_ ?_
            rotate_left
            · show Act.put _ (some 107) _ = _
              simp only [Act.put, List.setIfInBounds_toArray, List.set_cons_zero, List.set_cons_succ, i64_w, i32_w]
              rfl
            refine one_ (i := 8) (N := some 108) #[true, true, true, true, true, true, true, true, true, false, false] rfl rfl (one_of HT_.out (by kernel_rfl)) (by decide) (fun K hK => ?_)
            refine goes_ Try.func15 (by kernel_rfl) rfl #[.agg #[.int .i64 (orV a0 100), .int .i64 (orV a1 10), .int .i64 (orV a2 100), .int .i64 (orV a3 10), .slice F4 (fillL L).length f4, .slice F5 (fillS S).length f5], .agg #[.int .i64 (orV a0 100), .int .i64 (orV a1 10), .int .i64 (orV a2 100), .int .i64 (orV a3 10), .slice R4 (fillL L).length r4, .slice R5 (fillS S).length r5]] (by rfl) rfl rfl (by (try simp only [List.map_toArray, List.map_cons, List.map_nil]); first | done | rfl) ?_
            refine (same_cc (orV a0 100) (orV a1 10) (orV a2 100) (orV a3 10) F4 R4 f4 r4 (fillL L) F5 R5 f5 r5 (fillS S) _ HF.out HR.out (Ok.more (Ok.fill HO.out) (by decide : 902 ≤ 1000))).mono ?_
            rintro e x4_ ⟨rfl, hb⟩
            refine ⟨_, rfl, ?_⟩
            replace HK := Aside0.mk (HK.out.below hb)
            replace HC := Aside0.mk (HC.out.below hb)
            replace HM := Aside0.mk (HM.out.below hb)
            clear hb HF HR
            refine hK.out _ _ ⟨(blk_cell HK.out.head 0).trans rfl, (blk_cell HK.out.head 1).trans rfl, (blk_cell HK.out.head 2).trans rfl, (blk_cell HK.out.head 3).trans rfl, (blk_cell HK.out.head 4).trans rfl, (blk_cell HK.out.head 5).trans rfl, (blk_cell HK.out.tail.head 0).trans rfl, (blk_cell HK.out.tail.head 1).trans rfl, (blk_cell HK.out.tail.head 2).trans rfl, (blk_cell HK.out.tail.head 3).trans rfl, (blk_cell HK.out.tail.head 4).trans rfl, (blk_cell HK.out.tail.head 5).trans rfl⟩ (fun hHeld => ?_)
            clear hK K
            refine norm_ (a' := ?_) ?_ ?_
            rotate_left
            · show Act.put _ (some 108) _ = _
              simp only [Act.put, List.setIfInBounds_toArray, List.set_cons_zero, List.set_cons_succ, i64_w, i32_w]
              rfl
            refine pure_ (i := 9) (N := some 109) (v := ?_) (a' := ?_) #[true, true, true, true, true, true, true, true, true, true, false] rfl rfl (any_of HT_.out (by kernel_rfl)) (fun _ _ _ h => h) (Or.inl ⟨by rfl, ?_⟩) ?_ ?_
            rotate_left
            · intro w'
              go_simp
              with_reducible rfl
            rotate_left
            · simp only [Act.put, List.setIfInBounds_toArray, List.set_cons_zero, List.set_cons_succ, i64_w, i32_w]
              rfl
            refine pure_ (i := 10) (N := some 2) (v := ?_) (a' := ?_) #[true, true, true, true, true, true, true, true, true, true, true] rfl rfl (any_of HT_.out (by kernel_rfl)) (fun _ _ _ h => h) (Or.inl ⟨by rfl, ?_⟩) ?_ ?_
            rotate_left
            · intro w'
              go_simp
              with_reducible rfl
            rotate_left
            · simp only [Act.put, List.setIfInBounds_toArray, List.set_cons_zero, List.set_cons_succ, i64_w, i32_w]
              rfl
            refine done_ (done_of HT_.out (by kernel_rfl)) ?_
            go_wp2_with fail
            go_ret
            exact ⟨rfl, HK.out.hB⟩
end Go.Proofs.Ytnbnaflhijfamaa.FillLaw5
