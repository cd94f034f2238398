/- What the guard Small says: a yes means few levels and schemas, short names, few rules, short lists. -/
import Derived.Test.YtnbnaflhijfamaaFillIs
namespace Go.Proofs.Ytnbnaflhijfamaa.FillSmall
open Go.RowKit Go.Proofs.YtnbnaflhijfamaaW.PrintWords Go.Proofs.YtnbnaflhijfamaaW.PrintLast Go.Proofs.YtnbnaflhijfamaaW.PrintMore Go.Proofs.Ytnbnaflhijfamaa.PFillAll Go.Proofs.Ytnbnaflhijfamaa.FillMap Go.Proofs.Ytnbnaflhijfamaa.FillState Go.Proofs.Ytnbnaflhijfamaa.FillWalk Go.Proofs.Ytnbnaflhijfamaa.FillIs
set_option linter.unusedVariables false
set_option linter.unusedSimpArgs false

def five (r : S37) (q : Nat) : List ByteArray := match q with
  | 0 => r.f0
  | 1 => r.f1
  | 2 => r.f2
  | 3 => r.f3
  | _ => r.f4
def RuleS (r : S37) (n : Nat) : Prop := ∀ q, q < n → (five r q).length ≤ 40
def SchemaS (x : S34) : Prop := x.f0.size ≤ 1000 ∧ x.f4.length ≤ 40 ∧ ∀ (j : Nat) (r : S37), x.f4[j]? = some r → RuleS r 5
structure SmallIs (L : List S31) (S : List S34) : Prop where
  l : L.length ≤ 40
  s : S.length ≤ 80
  ln : ∀ (j : Nat) (x : S31), L[j]? = some x → x.f0.size ≤ 1000
  sn : ∀ (j : Nat) (x : S34), S[j]? = some x → SchemaS x
theorem SmallIs.ok {L : List S31} {S : List S34} (h : SmallIs L S) : Ok 900 L S := by
  refine ⟨by have := h.l; omega, by have := h.s; omega, fun x hx => ?_, fun x hx => ?_⟩
  · obtain ⟨j, hj⟩ := List.mem_iff_getElem?.1 hx
    have := h.ln j x hj
    unfold maxLen
    omega
  · obtain ⟨j, hj⟩ := List.mem_iff_getElem?.1 hx
    obtain ⟨h1, h2, h3⟩ := h.sn j x hj
    refine ⟨by unfold maxLen; omega, by omega, fun r hr => ?_⟩
    obtain ⟨i, hi⟩ := List.mem_iff_getElem?.1 hr
    have h4 := h3 i r hi
    have q0 := h4 0 (by omega)
    have q1 := h4 1 (by omega)
    have q2 := h4 2 (by omega)
    have q3 := h4 3 (by omega)
    have q4 := h4 4 (by omega)
    exact ⟨Nat.lt_of_le_of_lt q0 (by decide), Nat.lt_of_le_of_lt q1 (by decide), Nat.lt_of_le_of_lt q2 (by decide), Nat.lt_of_le_of_lt q3 (by decide), Nat.lt_of_le_of_lt q4 (by decide)⟩
theorem five_cell {W V : World} {r : S37} {B0 B1 B2 B3 B4 : Option Addr} {d0 d1 d2 d3 d4 g : Nat} (hb : V.heap[g]? = some (.cells #[.slice B0 r.f0.length d0, .slice B1 r.f1.length d1, .slice B2 r.f2.length d2, .slice B3 r.f3.length d3, .slice B4 r.f4.length d4] 35 (0, 0)))
    (h0 : Kd.C Kd.string W B0 r.f0.length r.f0) (h1 : Kd.C Kd.string W B1 r.f1.length r.f1) (h2 : Kd.C Kd.string W B2 r.f2.length r.f2) (h3 : Kd.C Kd.string W B3 r.f3.length r.f3) (h4 : Kd.C Kd.string W B4 r.f4.length r.f4) :
    ∀ q, q < 5 → ∃ A c, V.cell? ⟨g, q, none⟩ = some (.slice A (five r q).length c) ∧ Kd.C Kd.string W A (five r q).length (five r q) := by
  intro q hq
  match q, hq with
  | 0, _ => exact ⟨B0, d0, (blk_cell hb 0).trans rfl, h0⟩
  | 1, _ => exact ⟨B1, d1, (blk_cell hb 1).trans rfl, h1⟩
  | 2, _ => exact ⟨B2, d2, (blk_cell hb 2).trans rfl, h2⟩
  | 3, _ => exact ⟨B3, d3, (blk_cell hb 3).trans rfl, h3⟩
  | 4, _ => exact ⟨B4, d4, (blk_cell hb 4).trans rfl, h4⟩
theorem RuleS.step {r : S37} {q : Nat} (h : RuleS r q) (hq : (five r q).length ≤ 40) : RuleS r (q + 1) := by
  intro p hp
  rcases Nat.lt_or_ge p q with h2 | h2
  · exact h p h2
  · have e : p = q := by omega
    rw [e]
    exact hq
structure Ks (w W : World) (l : List (Nat × Array Value × TypeId)) : Prop where
  hb : ∀ p ∈ l, W.heap[p.1]? = some (.cells p.2.1 p.2.2 (0, 0))
  hB : Below w.heap.size w W
variable {w W W' : World} {l : List (Nat × Array Value × TypeId)} {p : Nat × Array Value × TypeId}
theorem Ks.below (h : Ks w W l) (hb : Below W.heap.size W W') : Ks w W' l := ⟨fun p hp => blk_below (h.hb p hp) hb, below_step h.hB hb⟩
theorem Ks.cons (h : Ks w W l) {g : Nat} {cs : Array Value} {t : TypeId} (hb : W.heap[g]? = some (.cells cs t (0, 0))) : Ks w W ((g, cs, t) :: l) := ⟨fun p hp => by
  rcases List.mem_cons.1 hp with rfl | hp
  · exact hb
  · exact h.hb p hp, h.hB⟩
theorem Ks.tail (h : Ks w W (p :: l)) : Ks w W l := ⟨fun q hq => h.hb q (List.mem_cons_of_mem _ hq), h.hB⟩
theorem Ks.head {g : Nat} {cs : Array Value} {t : TypeId} (h : Ks w W ((g, cs, t) :: l)) : W.heap[g]? = some (.cells cs t (0, 0)) := h.hb _ List.mem_cons_self
theorem up_to {α : Type} {P : α → Prop} {l : List α} {i : Nat} {x : α} (h : ∀ (j : Nat) (y : α), j < i → l[j]? = some y → P y) (hx : l[i]? = some x) (hp : P x) : ∀ (j : Nat) (y : α), j < i + 1 → l[j]? = some y → P y := by
  intro j y hj hy
  rcases Nat.lt_or_ge j i with h2 | h2
  · exact h j y h2 hy
  · have e : j = i := by omega
    subst e
    rw [hx] at hy
    exact Option.some.inj hy ▸ hp
theorem all_of {α : Type} {P : α → Prop} {l : List α} (h : ∀ (j : Nat) (y : α), j < l.length → l[j]? = some y → P y) : ∀ (j : Nat) (y : α), l[j]? = some y → P y :=
  fun j y hy => h j y (List.getElem?_eq_some_iff.1 hy).1 hy

theorem rise' {i : Nat} : Value.int .i64 ((i : Int) + 1) = Value.int .i64 ((i + 1 : Nat) : Int) := by rw [Int.natCast_add]; rfl
theorem fall' {n i : Nat} (h : i < n) : n - (intOf (Value.int .i64 ((i : Int) + 1))).toNat < n - (intOf (Value.int .i64 (i : Int))).toNat := by
  show n - ((i : Int) + 1).toNat < n - ((i : Int)).toNat
  omega
set_option maxHeartbeats 8000000 in
set_option maxRecDepth 100000 in
theorem small_any (a0 a1 a2 a3 : Int) (A4 : Option Addr) (c4 : Nat) (L : List S31) (A5 : Option Addr) (c5 : Nat) (S : List S34) (w : World) (HL : Aside0 (Kd.C k31 w A4 L.length L)) (KL : Aside0 (L.length ≤ c4)) (HS_ : Aside0 (Kd.C k34 w A5 S.length S)) (KS : Aside0 (S.length ≤ c5)) :
    Calls Try.prog 12 #[.agg #[.int .i64 a0, .int .i64 a1, .int .i64 a2, .int .i64 a3, .slice A4 L.length c4, .slice A5 S.length c5]] w fun e w' => ∃ b : Bool, e = .returned (.bool b) ∧ (b = true → SmallIs L S) ∧ Below w.heap.size w w' := by
  go_enter Try.func12, Try.ntmps12
  by_cases b1 : L.length ≤ 40
  · have d1 : decide ((40 : Int) < (L.length : Int)) = false := decide_eq_false (by omega)
    by_cases b2 : S.length ≤ 80
    · have d2 : decide ((80 : Int) < (S.length : Int)) = false := decide_eq_false (by omega)
      go_wp2_with (first | ((with_reducible refine gate_dst (N := 1) rfl ?_); refine box_event ?hg (N := 1) ?hd (cs := #[.int .i64 a0, .int .i64 a1, .int .i64 a2, .int .i64 a3, .slice A4 L.length c4, .slice A5 S.length c5]) (t := 25) ?hr ?_; (case hd => rfl); (case hg => rfl); (case hr => first | (go_simp; done) | (go_simp; rfl)); intro g1 hg w1 hbox hb; have HK := Aside0.mk (show Ks w w1 [(g1, #[.int .i64 a0, .int .i64 a1, .int .i64 a2, .int .i64 a3, .slice A4 L.length c4, .slice A5 S.length c5], 25)] from ⟨fun p hp => by rw [List.mem_singleton.1 hp]; exact hbox, hb⟩); clear hb hbox hg; have h1_4 : w1.cell? ⟨g1, 4, none⟩ = some (.slice A4 L.length c4) := (blk_cell HK.out.head 4).trans rfl; have h1_5 : w1.cell? ⟨g1, 5, none⟩ = some (.slice A5 S.length c5) := (blk_cell HK.out.head 5).trans rfl))
      clear d1 d2 h1_5
      go_loopw [4] (fun s wr => ∃ i : Nat, i ≤ L.length ∧ s = .int .i64 i ∧ Ks w wr [(g1, #[.int .i64 a0, .int .i64 a1, .int .i64 a2, .int .i64 a3, .slice A4 L.length c4, .slice A5 S.length c5], 25)] ∧ ∀ (j : Nat) (y : S31), j < i → L[j]? = some y → y.f0.size ≤ 1000) (fun s _ => L.length - (intOf s).toNat)
      case atStart => exact ⟨0, Nat.zero_le _, rfl, HK.out, fun j y hj => absurd hj (Nat.not_lt_zero _)⟩
      case round =>
        clear h1_4 HK
        obtain ⟨i, hi, rfl, hk, hp⟩ := hrel
        have HK := Aside0.mk hk
        have HP := Aside0.mk hp
        clear hk hp
        have h1_4 : wr.cell? ⟨g1, 4, none⟩ = some (.slice A4 L.length c4) := (blk_cell HK.out.head 4).trans rfl
        have h1_5 : wr.cell? ⟨g1, 5, none⟩ = some (.slice A5 S.length c5) := (blk_cell HK.out.head 5).trans rfl
        by_cases hin : i < L.length
        · have hc : decide ((i : Int) < (L.length : Int)) = true := decide_eq_true (by omega)
          have p0 : (0 ≤ (i : Int)) = True := eq_true (by omega)
          have p1 : ((i : Int) < (L.length : Int)) = True := eq_true (by omega)
          obtain ⟨ad, e, x0, x1, x2, x3, x4, x5, x6, x7, x8, x9⟩ := at_T31 (Kd.C_below HL.out HK.out.hB) (i : Int) (by omega) (by omega)
          have hx : L[i]? = some (rd_T31 L (i : Int)) := by rw [rd31_mem hin]; exact List.getElem?_eq_getElem hin
          generalize rd_T31 L (i : Int) = x at *
          have Hx := Aside0.mk hx
          have Hin := Aside0.mk hin
          clear hx x1 x2 x3 x4 x5 x6 x7 x8 x9
          subst e
          rw [Int.toNat_natCast] at x0
          by_cases hs : x.f0.size ≤ 1000
          · have hd : decide ((1000 : Int) < (x.f0.size : Int)) = false := decide_eq_false (by omega)
            have Hs := Aside0.mk hs
            clear hs
            go_wp2_with fail
            have h1 : L.length < 1000 := by omega
            go_roundw
            case rel => exact ⟨i + 1, Hin.out, rise', HK.out, up_to HP.out Hx.out Hs.out⟩
            case measure => exact fall' Hin.out
          · have hd : decide ((1000 : Int) < (x.f0.size : Int)) = true := decide_eq_true (by omega)
            go_wp2_with fail
            go_ret
            exact ⟨false, rfl, fun h => absurd h (by decide), HK.out.hB⟩
        · have e : i = L.length := by omega
          subst e
          have hc : decide ((L.length : Int) < (L.length : Int)) = false := decide_eq_false (by omega)
          have HP1 := Aside0.mk (all_of HP.out)
          clear HP
          go_wp2_with fail
          go_loopw [5, 3] (fun s n wr => ∃ (i : Nat) (m : Int), i ≤ S.length ∧ s = .int .i64 i ∧ n = .int .i64 m ∧ Ks w wr [(g1, #[.int .i64 a0, .int .i64 a1, .int .i64 a2, .int .i64 a3, .slice A4 L.length c4, .slice A5 S.length c5], 25)] ∧ ∀ (j : Nat) (y : S34), j < i → S[j]? = some y → SchemaS y) (fun s _ _ => S.length - (intOf s).toNat)
          case atStart => exact ⟨0, 0, Nat.zero_le _, rfl, rfl, HK.out, fun j y hj => absurd hj (Nat.not_lt_zero _)⟩
          case round =>
            clear h1_4 h1_5 HK
            obtain ⟨i, m, hi, rfl, rfl, hk, hp⟩ := hrel
            have HK := Aside0.mk hk
            have HP := Aside0.mk hp
            clear hk hp
            have h1_4 : wr.cell? ⟨g1, 4, none⟩ = some (.slice A4 L.length c4) := (blk_cell HK.out.head 4).trans rfl
            have h1_5 : wr.cell? ⟨g1, 5, none⟩ = some (.slice A5 S.length c5) := (blk_cell HK.out.head 5).trans rfl
            by_cases hin : i < S.length
            · have hc : decide ((i : Int) < (S.length : Int)) = true := decide_eq_true (by omega)
              have p0 : (0 ≤ (i : Int)) = True := eq_true (by omega)
              have p1 : ((i : Int) < (S.length : Int)) = True := eq_true (by omega)
              obtain ⟨ad, B4, d4, e, x0, x1, x2, x3, x4, m4, r4⟩ := at_T34 HS_.out (i : Int) (by omega) (by omega)
              have hx : S[i]? = some (rd_T34 S (i : Int)) := by rw [rd34_mem hin]; exact List.getElem?_eq_getElem hin
              generalize rd_T34 S (i : Int) = x at *
              have Hx := Aside0.mk hx
              have R4 := Aside0.mk r4
              have Hin := Aside0.mk hin
              clear hx r4 m4
              subst e
              rw [Int.toNat_natCast] at x0 x1 x2 x3 x4
              replace x0 := pw_cell_below HK.out.hB x0
              replace x1 := pw_cell_below HK.out.hB x1
              replace x2 := pw_cell_below HK.out.hB x2
              replace x3 := pw_cell_below HK.out.hB x3
              replace x4 := pw_cell_below HK.out.hB x4
              by_cases q1 : x.f4.length ≤ 40
              · have t1 : decide ((40 : Int) < (x.f4.length : Int)) = false := decide_eq_false (by omega)
                by_cases q2 : x.f0.size ≤ 1000
                · have t2 : decide ((1000 : Int) < (x.f0.size : Int)) = false := decide_eq_false (by omega)
                  by_cases q3 : x.f1.size ≤ 1000
                  · have t3 : decide ((1000 : Int) < (x.f1.size : Int)) = false := decide_eq_false (by omega)
                    go_wp2_with (first | ((with_reducible refine gate_dst (N := 49) rfl ?_); refine new_world ?_; intro W1 hbox hb; have HK1 := Aside0.mk ((HK.out.below hb).cons hbox); clear hb hbox HK x0 x1 x2 x3 x4; have h6_0 : W1.cell? ⟨wr.heap.size, 0, none⟩ = some (.string x.f0) := (blk_cell HK1.out.head 0).trans rfl; have h6_1 : W1.cell? ⟨wr.heap.size, 1, none⟩ = some (.string x.f1) := (blk_cell HK1.out.head 1).trans rfl; have h6_4 : W1.cell? ⟨wr.heap.size, 4, none⟩ = some (.slice B4 x.f4.length d4) := (blk_cell HK1.out.head 4).trans rfl))
                    clear h1_4 h1_5 h6_0 h6_1 t1 t2 t3
                    generalize wr.heap.size = g6 at *
                    go_loopw [7, 3] (fun s n wr => ∃ (k : Nat) (m : Int), k ≤ x.f4.length ∧ s = .int .i64 k ∧ n = .int .i64 m ∧ Ks w wr ((g6, #[.string x.f0, .string x.f1, .int .i64 x.f2, .int .i64 x.f3, .slice B4 x.f4.length d4], 34) :: [(g1, #[.int .i64 a0, .int .i64 a1, .int .i64 a2, .int .i64 a3, .slice A4 L.length c4, .slice (some ad) S.length c5], 25)]) ∧ ∀ (j : Nat) (y : S37), j < k → x.f4[j]? = some y → RuleS y 5) (fun s _ _ => x.f4.length - (intOf s).toNat)
                    case atStart => exact ⟨0, m, Nat.zero_le _, rfl, rfl, HK1.out, fun j y hj => absurd hj (Nat.not_lt_zero _)⟩
                    case round =>
                      clear h6_4 HK1
                      obtain ⟨k, m, hk_, rfl, rfl, hk, hp⟩ := hrel
                      have HK := Aside0.mk hk
                      have HP3 := Aside0.mk hp
                      clear hk hp
                      have h6_4 : wr.cell? ⟨g6, 4, none⟩ = some (.slice B4 x.f4.length d4) := (blk_cell HK.out.head 4).trans rfl
                      by_cases hkn : k < x.f4.length
                      · have hc3 : decide ((k : Int) < (x.f4.length : Int)) = true := decide_eq_true (by omega)
                        have p0 : (0 ≤ (k : Int)) = True := eq_true (by omega)
                        have p1 : ((k : Int) < (x.f4.length : Int)) = True := eq_true (by omega)
                        obtain ⟨ad2, C0, e0, C1, e1, C2, e2, C3, e3, C4, e4, e, y0, y1, y2, y3, y4, n0, r0, n1, r1, n2, r2, n3, r3, n4, r4⟩ := at_T37 R4.out (k : Int) (by omega) (by omega)
                        have hr : x.f4[k]? = some (rd_T37 x.f4 (k : Int)) := by rw [rd37_mem hkn]; exact List.getElem?_eq_getElem hkn
                        generalize rd_T37 x.f4 (k : Int) = r at *
                        have Hr := Aside0.mk hr
                        have Hkn := Aside0.mk hkn
                        have Q0 := Aside0.mk r0
                        have Q1 := Aside0.mk r1
                        have Q2 := Aside0.mk r2
                        have Q3 := Aside0.mk r3
                        have Q4 := Aside0.mk r4
                        clear hr r0 r1 r2 r3 r4 n0 n1 n2 n3 n4
                        subst e
                        rw [Int.toNat_natCast] at y0 y1 y2 y3 y4
                        replace y0 := pw_cell_below HK.out.hB y0
                        replace y1 := pw_cell_below HK.out.hB y1
                        replace y2 := pw_cell_below HK.out.hB y2
                        replace y3 := pw_cell_below HK.out.hB y3
                        replace y4 := pw_cell_below HK.out.hB y4
                        go_wp2_with (first | ((with_reducible refine gate_dst (N := 77) rfl ?_); refine new_world ?_; intro W3 hbox hb; have HK2 := Aside0.mk ((HK.out.below hb).cons hbox); clear hb hbox HK y0 y1 y2 y3 y4 h6_4; have h8_0 : W3.cell? ⟨wr.heap.size, 0, none⟩ = some (.slice C0 r.f0.length e0) := (blk_cell HK2.out.head 0).trans rfl; have h8_1 : W3.cell? ⟨wr.heap.size, 1, none⟩ = some (.slice C1 r.f1.length e1) := (blk_cell HK2.out.head 1).trans rfl; have h8_2 : W3.cell? ⟨wr.heap.size, 2, none⟩ = some (.slice C2 r.f2.length e2) := (blk_cell HK2.out.head 2).trans rfl; have h8_3 : W3.cell? ⟨wr.heap.size, 3, none⟩ = some (.slice C3 r.f3.length e3) := (blk_cell HK2.out.head 3).trans rfl; have h8_4 : W3.cell? ⟨wr.heap.size, 4, none⟩ = some (.slice C4 r.f4.length e4) := (blk_cell HK2.out.head 4).trans rfl) | ((with_reducible refine gate_dst (N := 88) rfl ?_); refine new_world ?_; intro W4 hbox hb; have HK3 := Aside0.mk ((HK2.out.below hb).cons hbox); clear hb hbox HK2 h8_0 h8_1 h8_2 h8_3 h8_4))
                        generalize wr.heap.size = g8 at *
                        generalize W3.heap.size = g9 at *
                        go_loopw [89, 3] (fun s n wr => ∃ (q : Nat) (m : Int), q ≤ 5 ∧ s = .int .i64 q ∧ n = .int .i64 m ∧ Ks w wr ((g9, #[.slice C0 r.f0.length e0, .slice C1 r.f1.length e1, .slice C2 r.f2.length e2, .slice C3 r.f3.length e3, .slice C4 r.f4.length e4], 35) :: (g8, #[.slice C0 r.f0.length e0, .slice C1 r.f1.length e1, .slice C2 r.f2.length e2, .slice C3 r.f3.length e3, .slice C4 r.f4.length e4], 37) :: ((g6, #[.string x.f0, .string x.f1, .int .i64 x.f2, .int .i64 x.f3, .slice (some ad2) x.f4.length d4], 34) :: [(g1, #[.int .i64 a0, .int .i64 a1, .int .i64 a2, .int .i64 a3, .slice A4 L.length c4, .slice (some ad) S.length c5], 25)])) ∧ RuleS r q) (fun s _ _ => 5 - (intOf s).toNat)
                        case atStart => exact ⟨0, m, Nat.zero_le _, rfl, rfl, HK3.out, fun q hq => absurd hq (Nat.not_lt_zero _)⟩
                        case round =>
                          clear HK3
                          obtain ⟨q, m, hq_, rfl, rfl, hk, hp⟩ := hrel
                          have HK := Aside0.mk hk
                          have HP4 := Aside0.mk hp
                          clear hk hp
                          by_cases hqn : q < 5
                          · have hc4 : decide ((q : Int) < 5) = true := decide_eq_true (by omega)
                            have p2 : (0 ≤ (q : Int)) = True := eq_true (by omega)
                            have p3 : ((q : Int) < 5) = True := eq_true (by omega)
                            obtain ⟨Aq, cq, hcq, hCq⟩ := five_cell HK.out.head Q0.out Q1.out Q2.out Q3.out Q4.out q hqn
                            obtain ⟨t, ht⟩ : ∃ t, t = five r q := ⟨_, rfl⟩
                            rw [← ht] at hcq hCq
                            have Ht := Aside0.mk ht
                            have HCq := Aside0.mk hCq
                            have Hqn := Aside0.mk hqn
                            clear ht hCq
                            by_cases q4 : t.length ≤ 40
                            · have t4 : decide ((40 : Int) < (t.length : Int)) = false := decide_eq_false (by omega)
                              go_wp2_with fail
                              go_loopw [11, 3] (fun s n wr => ∃ (z : Nat) (m : Int), z ≤ t.length ∧ s = .int .i64 z ∧ n = .int .i64 m ∧ Ks w wr ((g9, #[.slice C0 r.f0.length e0, .slice C1 r.f1.length e1, .slice C2 r.f2.length e2, .slice C3 r.f3.length e3, .slice C4 r.f4.length e4], 35) :: (g8, #[.slice C0 r.f0.length e0, .slice C1 r.f1.length e1, .slice C2 r.f2.length e2, .slice C3 r.f3.length e3, .slice C4 r.f4.length e4], 37) :: ((g6, #[.string x.f0, .string x.f1, .int .i64 x.f2, .int .i64 x.f3, .slice (some ad2) x.f4.length d4], 34) :: [(g1, #[.int .i64 a0, .int .i64 a1, .int .i64 a2, .int .i64 a3, .slice A4 L.length c4, .slice (some ad) S.length c5], 25)]))) (fun s _ _ => t.length - (intOf s).toNat)
                              case atStart => exact ⟨0, m, Nat.zero_le _, rfl, rfl, HK.out⟩
                              case round =>
                                clear HK hcq
                                obtain ⟨z, m, hz_, rfl, rfl, hk⟩ := hrel
                                have HK := Aside0.mk hk
                                clear hk
                                by_cases hzn : z < t.length
                                · have hc5 : decide ((z : Int) < (t.length : Int)) = true := decide_eq_true (by omega)
                                  have p4 : (0 ≤ (z : Int)) = True := eq_true (by omega)
                                  have p5 : ((z : Int) < (t.length : Int)) = True := eq_true (by omega)
                                  obtain ⟨ad3, e3_, hs3⟩ := (Kd.reads_of_C (d := ByteArray.empty) (Kd.C_below HCq.out HK.out.hB)).at_ (z : Int) (by omega) (by omega)
                                  generalize rdOf ByteArray.empty t (z : Int) = txt at *
                                  have Hzn := Aside0.mk hzn
                                  subst e3_
                                  rw [Int.toNat_natCast] at hs3
                                  by_cases q5 : txt.size ≤ 1000
                                  · have t5 : decide ((1000 : Int) < (txt.size : Int)) = false := decide_eq_false (by omega)
                                    go_wp2_with fail
                                    go_roundw
                                    case rel => exact ⟨z + 1, _, Hzn.out, rise', rfl, HK.out⟩
                                    case measure => exact fall' Hzn.out
                                  · have t5 : decide ((1000 : Int) < (txt.size : Int)) = true := decide_eq_true (by omega)
                                    go_wp2_with fail
                                    go_ret
                                    exact ⟨false, rfl, fun h => absurd h (by decide), HK.out.hB⟩
                                · have e : z = t.length := by omega
                                  subst e
                                  have hc5 : decide ((t.length : Int) < (t.length : Int)) = false := decide_eq_false (by omega)
                                  go_wp2_with fail
                                  go_roundw
                                  case rel => exact ⟨q + 1, m, Hqn.out, rise', rfl, HK.out, HP4.out.step (by rw [← Ht.out]; exact q4)⟩
                                  case measure => exact fall' Hqn.out
                            · have t4 : decide ((40 : Int) < (t.length : Int)) = true := decide_eq_true (by omega)
                              go_wp2_with fail
                              go_ret
                              exact ⟨false, rfl, fun h => absurd h (by decide), HK.out.hB⟩
                          · have e : q = 5 := by omega
                            subst e
                            have hc4 : decide ((((5 : Nat)) : Int) < 5) = false := decide_eq_false (by omega)
                            go_wp2_with fail
                            go_roundw
                            case rel => exact ⟨k + 1, m, Hkn.out, rise', rfl, HK.out.tail.tail, up_to HP3.out Hr.out HP4.out⟩
                            case measure => exact fall' Hkn.out
                      · have e : k = x.f4.length := by omega
                        subst e
                        have hc3 : decide ((x.f4.length : Int) < (x.f4.length : Int)) = false := decide_eq_false (by omega)
                        go_wp2_with fail
                        go_roundw
                        case rel => exact ⟨i + 1, m, Hin.out, rise', rfl, HK.out.tail, up_to HP.out Hx.out ⟨q2, q1, all_of HP3.out⟩⟩
                        case measure => exact fall' Hin.out
                  · have t3 : decide ((1000 : Int) < (x.f1.size : Int)) = true := decide_eq_true (by omega)
                    go_wp2_with (first | ((with_reducible refine gate_dst (N := 49) rfl ?_); refine new_world ?_; intro W1 hbox hb; have HK1 := Aside0.mk ((HK.out.below hb).cons hbox); clear hb hbox HK x0 x1 x2 x3 x4; have h6_0 : W1.cell? ⟨wr.heap.size, 0, none⟩ = some (.string x.f0) := (blk_cell HK1.out.head 0).trans rfl; have h6_1 : W1.cell? ⟨wr.heap.size, 1, none⟩ = some (.string x.f1) := (blk_cell HK1.out.head 1).trans rfl; have h6_4 : W1.cell? ⟨wr.heap.size, 4, none⟩ = some (.slice B4 x.f4.length d4) := (blk_cell HK1.out.head 4).trans rfl))
                    go_ret
                    exact ⟨false, rfl, fun h => absurd h (by decide), HK1.out.hB⟩
                · have t2 : decide ((1000 : Int) < (x.f0.size : Int)) = true := decide_eq_true (by omega)
                  go_wp2_with (first | ((with_reducible refine gate_dst (N := 49) rfl ?_); refine new_world ?_; intro W1 hbox hb; have HK1 := Aside0.mk ((HK.out.below hb).cons hbox); clear hb hbox HK x0 x1 x2 x3 x4; have h6_0 : W1.cell? ⟨wr.heap.size, 0, none⟩ = some (.string x.f0) := (blk_cell HK1.out.head 0).trans rfl; have h6_1 : W1.cell? ⟨wr.heap.size, 1, none⟩ = some (.string x.f1) := (blk_cell HK1.out.head 1).trans rfl; have h6_4 : W1.cell? ⟨wr.heap.size, 4, none⟩ = some (.slice B4 x.f4.length d4) := (blk_cell HK1.out.head 4).trans rfl))
                  go_ret
                  exact ⟨false, rfl, fun h => absurd h (by decide), HK1.out.hB⟩
              · have t1 : decide ((40 : Int) < (x.f4.length : Int)) = true := decide_eq_true (by omega)
                go_wp2_with (first | ((with_reducible refine gate_dst (N := 49) rfl ?_); refine new_world ?_; intro W1 hbox hb; have HK1 := Aside0.mk ((HK.out.below hb).cons hbox); clear hb hbox HK x0 x1 x2 x3 x4; have h6_0 : W1.cell? ⟨wr.heap.size, 0, none⟩ = some (.string x.f0) := (blk_cell HK1.out.head 0).trans rfl; have h6_1 : W1.cell? ⟨wr.heap.size, 1, none⟩ = some (.string x.f1) := (blk_cell HK1.out.head 1).trans rfl; have h6_4 : W1.cell? ⟨wr.heap.size, 4, none⟩ = some (.slice B4 x.f4.length d4) := (blk_cell HK1.out.head 4).trans rfl))
                go_ret
                exact ⟨false, rfl, fun h => absurd h (by decide), HK1.out.hB⟩
            · have e : i = S.length := by omega
              subst e
              have hc : decide ((S.length : Int) < (S.length : Int)) = false := decide_eq_false (by omega)
              go_wp2_with fail
              go_ret
              exact ⟨_, rfl, fun _ => ⟨b1, b2, HP1.out, all_of HP.out⟩, HK.out.hB⟩
    · have d2 : decide ((80 : Int) < (S.length : Int)) = true := decide_eq_true (by omega)
      go_wp2_with (first | ((with_reducible refine gate_dst (N := 1) rfl ?_); refine box_event ?hg (N := 1) ?hd (cs := #[.int .i64 a0, .int .i64 a1, .int .i64 a2, .int .i64 a3, .slice A4 L.length c4, .slice A5 S.length c5]) (t := 25) ?hr ?_; (case hd => rfl); (case hg => rfl); (case hr => first | (go_simp; done) | (go_simp; rfl)); intro g1 hg w1 hbox hb; have HK := Aside0.mk (show Ks w w1 [(g1, #[.int .i64 a0, .int .i64 a1, .int .i64 a2, .int .i64 a3, .slice A4 L.length c4, .slice A5 S.length c5], 25)] from ⟨fun p hp => by rw [List.mem_singleton.1 hp]; exact hbox, hb⟩); clear hb hbox hg; have h1_4 : w1.cell? ⟨g1, 4, none⟩ = some (.slice A4 L.length c4) := (blk_cell HK.out.head 4).trans rfl; have h1_5 : w1.cell? ⟨g1, 5, none⟩ = some (.slice A5 S.length c5) := (blk_cell HK.out.head 5).trans rfl))
      go_ret
      exact ⟨false, rfl, fun h => absurd h (by decide), HK.out.hB⟩
  · have d1 : decide ((40 : Int) < (L.length : Int)) = true := decide_eq_true (by omega)
    go_wp2_with (first | ((with_reducible refine gate_dst (N := 1) rfl ?_); refine box_event ?hg (N := 1) ?hd (cs := #[.int .i64 a0, .int .i64 a1, .int .i64 a2, .int .i64 a3, .slice A4 L.length c4, .slice A5 S.length c5]) (t := 25) ?hr ?_; (case hd => rfl); (case hg => rfl); (case hr => first | (go_simp; done) | (go_simp; rfl)); intro g1 hg w1 hbox hb; have HK := Aside0.mk (show Ks w w1 [(g1, #[.int .i64 a0, .int .i64 a1, .int .i64 a2, .int .i64 a3, .slice A4 L.length c4, .slice A5 S.length c5], 25)] from ⟨fun p hp => by rw [List.mem_singleton.1 hp]; exact hbox, hb⟩); clear hb hbox hg; have h1_4 : w1.cell? ⟨g1, 4, none⟩ = some (.slice A4 L.length c4) := (blk_cell HK.out.head 4).trans rfl; have h1_5 : w1.cell? ⟨g1, 5, none⟩ = some (.slice A5 S.length c5) := (blk_cell HK.out.head 5).trans rfl))
    go_ret
    exact ⟨false, rfl, fun h => absurd h (by decide), HK.out.hB⟩
end Go.Proofs.Ytnbnaflhijfamaa.FillSmall
