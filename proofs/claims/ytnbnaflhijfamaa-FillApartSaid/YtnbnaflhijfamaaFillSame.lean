/- What the comparisons of lists of texts, of lists of rules say of equal lists: they are the same. -/
import Derived.Test.YtnbnaflhijfamaaFillAwake
namespace Go.Proofs.Ytnbnaflhijfamaa.FillSame
open Go.RowKit Go.Proofs.YtnbnaflhijfamaaW.PrintWords Go.Proofs.YtnbnaflhijfamaaW.PrintLast Go.Proofs.YtnbnaflhijfamaaW.PrintMore Go.Proofs.Ytnbnaflhijfamaa.PFillAll Go.Proofs.Ytnbnaflhijfamaa.FillMap Go.Proofs.Ytnbnaflhijfamaa.FillWalk Go.Proofs.Ytnbnaflhijfamaa.FillIs Go.Proofs.Ytnbnaflhijfamaa.FillAwake

theorem same_at (l : List ByteArray) (hl : l.length < 1000) : ∀ m i, i + m = l.length → usherref08_Same.l0 (m + 1) l l (i : Int) = some true := by
  intro m
  induction m with
  | zero =>
    intro i hi
    rw [usherref08_Same.l0, if_neg (by omega)]
  | succ m ih =>
    intro i hi
    rw [usherref08_Same.l0, if_pos (by omega), if_pos (by omega), if_pos (by omega), if_pos rfl, wrap_up (by omega : i < l.length) hl]
    exact ih (i + 1) (by omega)
theorem same_any (A0 A1 : Option Addr) (c0 c1 : Nat) (l : List ByteArray) (hl : l.length < 1000) (w : World) (h0 : Kd.C Kd.string w A0 l.length l) (k0 : l.length ≤ c0) (h1 : Kd.C Kd.string w A1 l.length l) (k1 : l.length ≤ c1) :
    Calls Try.prog 35 #[.slice A0 l.length c0, .slice A1 l.length c1] w fun e w' => e = .returned (.bool true) ∧ Drawn0 w w' :=
  usherref08_Same.calls (l.length + 1) A0 c0 l A1 c1 l true w h0 k0 h1 k1 (by unfold usherref08_Same.f; rw [if_pos rfl]; exact same_at l hl l.length 0 (by omega))

def Two (W : World) (A0 A1 : Option Addr) (c0 c1 : Nat) (l : List ByteArray) : Prop := Kd.C Kd.string W A0 l.length l ∧ Kd.C Kd.string W A1 l.length l ∧ l.length ≤ c0 ∧ l.length ≤ c1 ∧ l.length < 1000
theorem same_q {W : World} {A0 A1 : Option Addr} {c0 c1 : Nat} {l : List ByteArray} (G : Aside0 (Two W A0 A1 c0 c1 l)) (n : Nat) :
    Calls Try.prog 35 #[.slice A0 l.length c0, .slice A1 l.length c1] (W.drewN n) fun e w'' => e = .returned (.bool true) ∧ ∃ m, w'' = W.drewN m := by
  obtain ⟨g0, g1, k0, k1, hl⟩ := G.out
  refine (same_any A0 A1 c0 c1 l hl _ (Kd.C_drewN g0 n) k0 (Kd.C_drewN g1 n) k1).mono ?_
  rintro e w' ⟨rfl, ⟨m, rfl⟩⟩
  exact ⟨rfl, n + m, by rw [World.drewN_drewN]⟩
set_option maxHeartbeats 4000000 in
theorem rules_any (A0 A1 : Option Addr) (c0 c1 : Nat) (l : List S37) (hl : l.length < 1000) (hr : ∀ r ∈ l, RuleOk r) (w : World) (h0 : Kd.C k37 w A0 l.length l) (k0 : l.length ≤ c0) (h1 : Kd.C k37 w A1 l.length l) (k1 : l.length ≤ c1) :
    Calls Try.prog 30 #[.slice A0 l.length c0, .slice A1 l.length c1] w fun e w' => e = .returned (.bool true) ∧ Drawn0 w w' := by
  have H0 := Aside0.mk h0
  have H1 := Aside0.mk h1
  have HR := Aside0.mk hr
  have HL := Aside0.mk hl
  clear h0 h1 hr hl
  go_enter Try.func30, Try.ntmps30
  go_wp2_with fail
  go_loopw [5] (fun s wr => ∃ i : Nat, i ≤ l.length ∧ s = .int .i64 i ∧ Drawn0 w wr) (fun s _ => l.length - (intOf s).toNat)
  case atStart => exact ⟨0, Nat.zero_le _, rfl, Drawn0.refl _⟩
  case round =>
    obtain ⟨i, hi, rfl, hd⟩ := hrel
    by_cases hin : i < l.length
    · have hc : decide ((i : Int) < (l.length : Int)) = true := decide_eq_true (by omega)
      have p0 : (0 ≤ (i : Int)) = True := eq_true (by omega)
      have p1 : ((i : Int) < (l.length : Int)) = True := eq_true (by omega)
      obtain ⟨ad, B0, d0, B1, d1, B2, d2, B3, d3, B4, d4, e, x0, x1, x2, x3, x4, m0, g0, m1, g1, m2, g2, m3, g3, m4, g4⟩ := at_T37 (Kd.C_below H0.out hd.below) (i : Int) (by omega) (by omega)
      obtain ⟨ad', B0', d0', B1', d1', B2', d2', B3', d3', B4', d4', e', x0', x1', x2', x3', x4', m0', g0', m1', g1', m2', g2', m3', g3', m4', g4'⟩ := at_T37 (Kd.C_below H1.out hd.below) (i : Int) (by omega) (by omega)
      have hk := HR.out l[i] (List.getElem_mem hin)
      rw [← rd37_mem hin] at hk
      obtain ⟨n0, n1, n2, n3, n4⟩ := hk
      generalize rd_T37 l (i : Int) = x at *
      have G0 := Aside0.mk (show Two wr B0 B0' d0 d0' x.f0 from ⟨g0, g0', m0, m0', n0⟩)
      have G1 := Aside0.mk (show Two wr B1 B1' d1 d1' x.f1 from ⟨g1, g1', m1, m1', n1⟩)
      have G2 := Aside0.mk (show Two wr B2 B2' d2 d2' x.f2 from ⟨g2, g2', m2, m2', n2⟩)
      have G3 := Aside0.mk (show Two wr B3 B3' d3 d3' x.f3 from ⟨g3, g3', m3, m3', n3⟩)
      have G4 := Aside0.mk (show Two wr B4 B4' d4 d4' x.f4 from ⟨g4, g4', m4, m4', n4⟩)
      have Hin := Aside0.mk hin
      clear g0 g1 g2 g3 g4 g0' g1' g2' g3' g4' m0 m1 m2 m3 m4 m0' m1' m2' m3' m4' n0 n1 n2 n3 n4
      subst e e'
      rw [Int.toNat_natCast] at x0 x1 x2 x3 x4 x0' x1' x2' x3' x4'
      have HD := Aside0.mk hd
      clear hd
      go_wp2_with fail
      go_quiet (first | (go_at_call_of 35 B0; with_reducible exact same_q G0 _) | (go_at_call_of 35 B1; with_reducible exact same_q G1 _) | (go_at_call_of 35 B2; with_reducible exact same_q G2 _) | (go_at_call_of 35 B3; with_reducible exact same_q G3 _) | (go_at_call_of 35 B4; with_reducible exact same_q G4 _))
      go_wp2_with fail
      have h1 := HL.out
      go_roundw
      case rel => exact ⟨i + 1, Hin.out, rise Hin.out h1, by repeat (first | exact HD.out | apply Drawn0.step)⟩
      case measure => exact fall Hin.out h1
    · have e : i = l.length := by omega
      subst e
      have hc : decide ((l.length : Int) < (l.length : Int)) = false := decide_eq_false (by omega)
      go_wp2_with fail
      go_ret
      exact ⟨rfl, hd⟩
end Go.Proofs.Ytnbnaflhijfamaa.FillSame
