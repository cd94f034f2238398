/- An argument of the type api.Request, opened: its value written out, its list of groups as a list of texts; no condition. -/
import Derived.Test.YteiejbkohnokaaaProg
import Derived.Test.YteiejbkohnokaaaWWords
import Derived.Lib.SmallJoins
import Derived.Deep.Strs
import Derived.Deep.Fields
namespace Go.Proofs.Yteiejbkohnokaaa.OpenReq
open Go.Joins Go.ChangeShapes Go.WideShapes Go.RowKit Go.Deep Go.Proofs.YteiejbkohnokaaaW.PrintWords
section
variable {H : Type} {enc : TypeId × Value → H} {P : Program} {w : World} {base : Nat} {spare : Nat → Bool} {held : Bool}
theorem open_agg6 {r : Reach} {b0 : Nat} {t : TypeId} {f0 f1 f2 f3 f4 f5 : Field} {v : Value} {d : DataW H} {p : List MemPlace} (hs : P.underlying t = some (.struct #[f0, f1, f2, f3, f4, f5])) (hone : oneCellFields P #[f0, f1, f2, f3, f4, f5] = true) (hC : P.cellsOf t = 6)
    (hv : Value.okWide P w r b0 t v) (h : DataW.Trod enc P w base spare held t v d p) :
    ∃ (v0 v1 v2 v3 v4 v5 : Value) (y0 y1 y2 y3 y4 y5 : DataW H × List MemPlace) (n : Nat), v = .agg #[v0, v1, v2, v3, v4, v5] ∧ d = .agg [y0.1, y1.1, y2.1, y3.1, y4.1, y5.1] ∧ p = y0.2 ++ (y1.2 ++ (y2.2 ++ (y3.2 ++ (y4.2 ++ y5.2)))) ∧
      DataW.trod enc P w base spare held n f0.type [v0] = some y0 ∧ DataW.trod enc P w base spare held n f1.type [v1] = some y1 ∧ DataW.trod enc P w base spare held n f2.type [v2] = some y2 ∧ DataW.trod enc P w base spare held n f3.type [v3] = some y3 ∧ DataW.trod enc P w base spare held n f4.type [v4] = some y4 ∧ DataW.trod enc P w base spare held n f5.type [v5] = some y5 := by
  obtain ⟨cs, rfl, hsz⟩ := okWide_struct hs hv
  obtain ⟨l⟩ := cs
  match l, hsz.trans hC with
  | [c0, c1, c2, c3, c4, c5], _ =>
    obtain ⟨fuel, hf⟩ := h
    obtain ⟨xs, n, _, hx, _, hlen, hg⟩ := DataW.trod_struct hs hf
    obtain ⟨o0, k0⟩ := hone_of hone 0 f0 rfl
    obtain ⟨o1, k1⟩ := hone_of hone 1 f1 rfl
    obtain ⟨o2, k2⟩ := hone_of hone 2 f2 rfl
    obtain ⟨o3, k3⟩ := hone_of hone 3 f3 rfl
    obtain ⟨o4, k4⟩ := hone_of hone 4 f4 rfl
    obtain ⟨o5, k5⟩ := hone_of hone 5 f5 rfl
    match xs, hlen with
    | [y0, y1, y2, y3, y4, y5], _ =>
      simp only [Prod.mk.injEq] at hx
      exact ⟨c0, c1, c2, c3, c4, c5, y0, y1, y2, y3, y4, y5, n, rfl, by simpa using hx.1, by simpa using hx.2, by simpa [Value.cells, o0, k0] using hg 0 f0 rfl, by simpa [Value.cells, o1, k1] using hg 1 f1 rfl, by simpa [Value.cells, o2, k2] using hg 2 f2 rfl, by simpa [Value.cells, o3, k3] using hg 3 f3 rfl, by simpa [Value.cells, o4, k4] using hg 4 f4 rfl, by simpa [Value.cells, o5, k5] using hg 5 f5 rfl⟩
end

theorem C_strs (w : World) (ad : Addr) (n : Nat) (Sx : Nat → ByteArray) (hn : n ≤ 9223372036854775807) (h : ∀ i, i < n → w.cell? (ad.add i) = some (.string (Sx i))) :
    Kd.C Kd.string w (some ad) n ((List.range n).map Sx) := by
  refine ⟨by simp, hn, fun _ => ⟨ad, rfl, fun j p hp => ?_⟩⟩
  have hj : j < n := by
    rcases Nat.lt_or_ge j n with h' | h'
    · exact h'
    · rw [List.getElem?_eq_none (by simpa using h')] at hp; cases hp
  rw [List.getElem?_map, List.getElem?_range hj] at hp
  simp at hp
  subst hp
  refine ⟨[.string (Sx j)], rfl, rfl, fun i u hi => ?_⟩
  cases i with
  | zero => simp at hi; subst hi; have := h j hj; simpa [Kd.string, Kd.scalar] using this
  | succ i => simp at hi

theorem cells40 : Try.prog.cellsOf 40 = 6 := by kernel_rfl
theorem cells9 : Try.prog.cellsOf 9 = 1 := by kernel_rfl

theorem open_req {H : Type} {enc : TypeId × Value → H} {w : World} {base : Nat} {spare : Nat → Bool} {held : Bool} {r : Reach} {b0 : Nat} {v : Value} {d : DataW H} {p : List MemPlace}
    (hv : Value.okWide Try.prog w r b0 40 v) (h : DataW.Trod enc Try.prog w base spare held 40 v d p) :
    ∃ (u : ByteArray) (A : Option Addr) (g : List ByteArray) (c : Nat) (vb rs sp : ByteArray) (o : Int), v = .agg #[.string u, .slice A g.length c, .string vb, .string rs, .string sp, .int .i64 o] ∧
      Kd.C Kd.string w A g.length g ∧ g.length ≤ c ∧ g.length ≤ 9223372036854775807 ∧ (Lit.int .i64 o).wf = true := by
  obtain ⟨v0, v1, v2, v3, v4, v5, y0, y1, y2, y3, y4, y5, n, rfl, _, _, h0, h1, h2, h3, h4, h5⟩ := open_agg6 Try.underlying40 (by kernel_rfl) cells40 hv h
  obtain ⟨s0, e0, _, _⟩ := DataW.trod_string Try.underlying9 h0
  obtain ⟨s2, e2, _, _⟩ := DataW.trod_string Try.underlying9 h2
  obtain ⟨s3, e3, _, _⟩ := DataW.trod_string Try.underlying9 h3
  obtain ⟨s4, e4, _, _⟩ := DataW.trod_string Try.underlying9 h4
  obtain ⟨o, e5, _, wo⟩ := DataW.trod_int Try.underlying3 h5
  simp only [List.cons.injEq, and_true] at e0 e2 e3 e4 e5
  subst e0 e2 e3 e4 e5
  rcases open_strs Try.underlying38 Try.underlying9 cells9 h1 with ⟨hcs, _⟩ | ⟨a, len, cap, m, Sx, hcs, _, hl, hm, hmm, _, hx⟩
  · simp only [List.cons.injEq, and_true] at hcs
    subst hcs
    exact ⟨s0, none, [], 0, s2, s3, s4, o, rfl, ⟨rfl, by decide, fun h => absurd h (by decide)⟩, Nat.le_refl _, by decide, wo⟩
  · simp only [List.cons.injEq, and_true] at hcs
    subst hcs
    unfold maxLen at hm
    have hlm : len ≤ m := by rw [hmm]; split <;> omega
    have hlen : ((List.range len).map Sx).length = len := by simp
    refine ⟨s0, some a, (List.range len).map Sx, cap, s2, s3, s4, o, by rw [hlen], ?_, by rw [hlen]; exact hl, by rw [hlen]; omega, wo⟩
    rw [hlen]
    exact C_strs w a len Sx (by omega) (fun i hi => (hx i (by omega)).1)
theorem wf_i64 {a : Int} (h : (Lit.int .i64 a).wf = true) : -9223372036854775808 ≤ a ∧ a ≤ 9223372036854775807 := by
  simp [Lit.wf, IntKind.min, IntKind.max, IntKind.signed, IntKind.bits] at h
  omega
end Go.Proofs.Yteiejbkohnokaaa.OpenReq
