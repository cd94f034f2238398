/- An argument of the type api.Config, opened: its value written out, its levels, its schemas with their rules as lists; no condition. -/
import Derived.Test.YtnbnaflhijfamaaPFillAllx0
import Derived.Lib.SmallJoins
import Derived.Deep.Strs
import Derived.Deep.Slices
import Derived.Deep.Fields
import Derived.ChangeSame
namespace Go.Proofs.Ytnbnaflhijfamaa.OpenCfg
open Go.Joins Go.ChangeShapes Go.WideShapes Go.RowKit Go.Deep Go.Proofs.YtnbnaflhijfamaaW.PrintWords Go.Proofs.Ytnbnaflhijfamaa.PFillAll
section
variable {H : Type} {enc : TypeId × Value → H} {P : Program} {w : World} {base : Nat} {spare : Nat → Bool} {held : Bool}
theorem open_agg6 {r : Reach} {b0 : Nat} {t : TypeId} {f0 f1 f2 f3 f4 f5 : Field} {v : Value} {d : DataW H} {p : List MemPlace} (hs : P.underlying t = some (.struct #[f0, f1, f2, f3, f4, f5])) (hone : oneCellFields P #[f0, f1, f2, f3, f4, f5] = true) (hC : P.cellsOf t = 6)
    (hv : Value.okWide P w r b0 t v) (h : DataW.Trod enc P w base spare held t v d p) :
    ∃ (v0 v1 v2 v3 v4 v5 : Value) (y0 y1 y2 y3 y4 y5 : DataW H × List MemPlace) (n : Nat), v = .agg #[v0, v1, v2, v3, v4, v5] ∧ d = .agg [y0.1, y1.1, y2.1, y3.1, y4.1, y5.1] ∧ p = y0.2 ++ (y1.2 ++ (y2.2 ++ (y3.2 ++ (y4.2 ++ y5.2)))) ∧
      DataW.trod enc P w base spare held n f0.type [v0] = some y0 ∧ DataW.trod enc P w base spare held n f1.type [v1] = some y1 ∧ DataW.trod enc P w base spare held n f2.type [v2] = some y2 ∧ DataW.trod enc P w base spare held n f3.type [v3] = some y3 ∧ DataW.trod enc P w base spare held n f4.type [v4] = some y4 ∧ DataW.trod enc P w base spare held n f5.type [v5] = some y5 := by
  obtain ⟨cs, rfl, hsz⟩ := okWide_struct hs hv
  obtain ⟨l⟩ := cs
  match l, hsz.trans hC with
  | [c0, c1, c2, c3, c4, c5], _ =>
    obtain ⟨fuel, hf⟩ := h
    obtain ⟨xs, n, _, hx, _, hlen, hg⟩ := DataW.trod_struct hs hf
    obtain ⟨o0, k0⟩ := hone_of hone 0 f0 rfl
    obtain ⟨o1, k1⟩ := hone_of hone 1 f1 rfl
    obtain ⟨o2, k2⟩ := hone_of hone 2 f2 rfl
    obtain ⟨o3, k3⟩ := hone_of hone 3 f3 rfl
    obtain ⟨o4, k4⟩ := hone_of hone 4 f4 rfl
    obtain ⟨o5, k5⟩ := hone_of hone 5 f5 rfl
    match xs, hlen with
    | [y0, y1, y2, y3, y4, y5], _ =>
      simp only [Prod.mk.injEq] at hx
      exact ⟨c0, c1, c2, c3, c4, c5, y0, y1, y2, y3, y4, y5, n, rfl, by simpa using hx.1, by simpa using hx.2, by simpa [Value.cells, o0, k0] using hg 0 f0 rfl, by simpa [Value.cells, o1, k1] using hg 1 f1 rfl, by simpa [Value.cells, o2, k2] using hg 2 f2 rfl, by simpa [Value.cells, o3, k3] using hg 3 f3 rfl, by simpa [Value.cells, o4, k4] using hg 4 f4 rfl, by simpa [Value.cells, o5, k5] using hg 5 f5 rfl⟩
theorem open_slice_fields {t e : TypeId} {fs : Array Field} {fuel : Nat} {cs : List Value} {x : DataW H × List MemPlace} (ht : P.underlying t = some (.slice e)) (he : P.underlying e = some (.struct fs))
    (hone : oneCellFields P fs = true) (hC : P.cellsOf e = fs.size) (h : DataW.trod enc P w base spare held fuel t cs = some x) :
    (cs = [.slice none 0 0] ∧ x = (.nil, [])) ∨
    ∃ (a : Addr) (len cap m : Nat) (D : Nat → DataW H) (Pl : Nat → List MemPlace), cs = [.slice (some a) len cap] ∧ base ≤ a.block ∧ len ≤ cap ∧ cap ≤ maxLen ∧ m = (if spare a.block then cap else len) ∧
      x = (.slice ((List.range len).map D) ((List.range (m - len)).map fun j => D (len + j)), MemPlace.row a (m * fs.size) ++ (List.range m).flatMap Pl) ∧
      ∀ i, i < m → ∃ (ys : List (DataW H × List MemPlace)) (n : Nat), D i = .agg (ys.map (·.1)) ∧ Pl i = ys.flatMap (·.2) ∧ ys.length = fs.size ∧
        ∀ (j : Nat) (f : Field), fs[j]? = some f → ∃ (v : Value) (y : DataW H × List MemPlace), w.cell? (a.add (i * fs.size + j)) = some v ∧ ys[j]? = some y ∧ DataW.trod enc P w base spare held n f.type [v] = some y := by
  rcases open_slice ht h with h0 | ⟨a, len, cap, m, n, D, Pl, hcs, hb, hl, hm, hmm, hx, hi⟩
  · exact .inl h0
  · refine .inr ⟨a, len, cap, m, D, Pl, hcs, hb, hl, hm, hmm, by rw [hC] at hx; exact hx, fun i him => ?_⟩
    obtain ⟨cs', hc, ht'⟩ := hi i him
    rw [hC] at hc
    obtain ⟨ys, n', hn', hy, hlen, hyl, hf⟩ := DataW.trod_struct he ht'
    obtain ⟨_, hcl, hat⟩ := World.cells?_some hc
    simp only [Prod.mk.injEq] at hy
    refine ⟨ys, n', hy.1, hy.2, hyl, fun j f hj => ?_⟩
    obtain ⟨ho, hk⟩ := hone_of hone j f hj
    have hjl : j < fs.size := (Array.getElem?_eq_some_iff.1 hj).1
    have hcell := hat j hjl
    have hv : cs'[j]? = some (cs'[j]'(by omega)) := List.getElem?_eq_getElem (by omega)
    have h1 := hf j f hj
    rw [ho, hk] at h1
    have hone' : (cs'.drop j).take 1 = [cs'[j]'(by omega)] := by
      rw [List.drop_eq_getElem_cons (by omega)]
      rfl
    rw [hone'] at h1
    have hys : ys[j]? = some (ys[j]'(by omega)) := List.getElem?_eq_getElem (by omega)
    refine ⟨_, _, ?_, hys, h1.trans hys⟩
    rw [← Go.Deep.add_add, hcell, hv]
end

theorem C_strs (w : World) (ad : Addr) (n : Nat) (Sx : Nat → ByteArray) (hn : n ≤ 9223372036854775807) (h : ∀ i, i < n → w.cell? (ad.add i) = some (.string (Sx i))) :
    Kd.C Kd.string w (some ad) n ((List.range n).map Sx) := by
  refine ⟨by simp, hn, fun _ => ⟨ad, rfl, fun j p hp => ?_⟩⟩
  have hj : j < n := by
    rcases Nat.lt_or_ge j n with h' | h'
    · exact h'
    · rw [List.getElem?_eq_none (by simpa using h')] at hp; cases hp
  rw [List.getElem?_map, List.getElem?_range hj] at hp
  simp at hp
  subst hp
  refine ⟨[.string (Sx j)], rfl, rfl, fun i u hi => ?_⟩
  cases i with
  | zero => simp at hi; subst hi; have := h j hj; simpa [Kd.string, Kd.scalar] using this
  | succ i => simp at hi

theorem cells9 : Try.prog.cellsOf 9 = 1 := by kernel_rfl
section
variable {H : Type} {enc : TypeId × Value → H} {w : World} {base : Nat} {spare : Nat → Bool} {held : Bool}
theorem strs_of {fuel : Nat} {v : Value} {y : DataW H × List MemPlace} (h : DataW.trod enc Try.prog w base spare held fuel 35 [v] = some y) :
    ∃ (A : Option Addr) (g : List ByteArray) (c : Nat), v = .slice A g.length c ∧ g.length ≤ c ∧ Kd.C Kd.string w A g.length g := by
  rcases open_strs Try.underlying35 Try.underlying9 cells9 h with ⟨hcs, _⟩ | ⟨a, len, cap, m, Sx, hcs, _, hl, hm, hmm, _, hx⟩
  · simp only [List.cons.injEq, and_true] at hcs
    subst hcs
    exact ⟨none, [], 0, rfl, Nat.le_refl _, ⟨rfl, by decide, fun h => absurd h (by decide)⟩⟩
  · simp only [List.cons.injEq, and_true] at hcs
    subst hcs
    unfold maxLen at hm
    have hlm : len ≤ m := by rw [hmm]; split <;> omega
    have hlen : ((List.range len).map Sx).length = len := by simp
    refine ⟨some a, (List.range len).map Sx, cap, by rw [hlen], by rw [hlen]; exact hl, ?_⟩
    rw [hlen]
    exact C_strs w a len Sx (by omega) (fun i hi => (hx i (by omega)).1)

theorem build_row {α : Type} (d : Kd α) (a : Addr) (len : Nat) (hel : ∀ i, i < len → ∃ (x : α) (cs : List Value), cs.length = d.sz ∧ d.K w x cs ∧ ∀ j u, cs[j]? = some u → w.cell? (a.add (i * d.sz + j)) = some u) :
    ∀ n, n ≤ len → ∃ xs : List α, xs.length = n ∧ ∀ i x, xs[i]? = some x → ∃ cs : List Value, cs.length = d.sz ∧ d.K w x cs ∧ ∀ j u, cs[j]? = some u → w.cell? (a.add (i * d.sz + j)) = some u := by
  intro n
  induction n with
  | zero => exact fun _ => ⟨[], rfl, fun i x hx => by simp at hx⟩
  | succ n ih =>
    intro hn
    obtain ⟨xs, hl, hx⟩ := ih (by omega)
    obtain ⟨x, cs, h1, h2, h3⟩ := hel n (by omega)
    refine ⟨xs ++ [x], by simp [hl], fun i y hy => ?_⟩
    rcases Nat.lt_or_ge i n with h | h
    · rw [List.getElem?_append_left (by omega)] at hy
      exact hx i y hy
    · rw [List.getElem?_append_right (by omega), hl] at hy
      have e : i = n := by
        rcases Nat.lt_or_ge n i with h' | h'
        · rw [List.getElem?_eq_none (by simp; omega)] at hy
          cases hy
        · omega
      subst e
      simp at hy
      subst hy
      exact ⟨cs, h1, h2, h3⟩

theorem rows_of {α : Type} (d : Kd α) {t e : TypeId} {fs : Array Field} (ht : Try.prog.underlying t = some (.slice e)) (he : Try.prog.underlying e = some (.struct fs)) (hone : oneCellFields Try.prog fs = true) (hC : Try.prog.cellsOf e = fs.size) (hsz : d.sz = fs.size)
    (hel : ∀ (cell : Nat → Option Value), (∀ (j : Nat) (f : Field), fs[j]? = some f → ∃ (v : Value) (y : DataW H × List MemPlace) (n : Nat), cell j = some v ∧ DataW.trod enc Try.prog w base spare held n f.type [v] = some y) → ∃ (x : α) (cs : List Value), cs.length = d.sz ∧ d.K w x cs ∧ ∀ j u, cs[j]? = some u → cell j = some u)
    {fuel : Nat} {v : Value} {y : DataW H × List MemPlace} (h : DataW.trod enc Try.prog w base spare held fuel t [v] = some y) :
    ∃ (A : Option Addr) (xs : List α) (c : Nat), v = .slice A xs.length c ∧ xs.length ≤ c ∧ d.C w A xs.length xs := by
  rcases open_slice_fields ht he hone hC h with ⟨hcs, _⟩ | ⟨a, len, cap, m, D, Pl, hcs, _, hl, hm, hmm, _, hx⟩
  · simp only [List.cons.injEq, and_true] at hcs
    subst hcs
    exact ⟨none, [], 0, rfl, Nat.le_refl _, ⟨rfl, by simp, fun h => absurd h (by simp)⟩⟩
  · simp only [List.cons.injEq, and_true] at hcs
    subst hcs
    unfold maxLen at hm
    have hlm : len ≤ m := by rw [hmm]; split <;> omega
    have key : ∀ i, i < len → ∃ (x : α) (cs : List Value), cs.length = d.sz ∧ d.K w x cs ∧ ∀ j u, cs[j]? = some u → w.cell? (a.add (i * d.sz + j)) = some u := by
      intro i hi
      obtain ⟨ys, n, _, _, _, hf⟩ := hx i (by omega)
      refine hel (fun j => w.cell? (a.add (i * d.sz + j))) (fun j f hj => ?_)
      obtain ⟨v, y, h1, _, h2⟩ := hf j f hj
      exact ⟨v, y, n, by rw [hsz]; exact h1, h2⟩
    obtain ⟨xs, hlen, hxs⟩ := build_row d a len key len (Nat.le_refl _)
    refine ⟨some a, xs, cap, by rw [hlen], by omega, ⟨rfl, by omega, fun _ => ⟨a, rfl, fun j p hp => ?_⟩⟩⟩
    obtain ⟨cs, h1, h2, h3⟩ := hxs j p hp
    exact ⟨cs, h1, h2, h3⟩

theorem str_of {fuel : Nat} {v : Value} {y : DataW H × List MemPlace} (h : DataW.trod enc Try.prog w base spare held fuel 9 [v] = some y) : ∃ s, v = .string s := by
  obtain ⟨s, e, _, _⟩ := DataW.trod_string Try.underlying9 h
  simp only [List.cons.injEq, and_true] at e
  exact ⟨s, e⟩
theorem int_of {fuel : Nat} {v : Value} {y : DataW H × List MemPlace} (h : DataW.trod enc Try.prog w base spare held fuel 3 [v] = some y) : ∃ a, v = .int .i64 a ∧ (Lit.int .i64 a).wf = true := by
  obtain ⟨a, e, _, wa⟩ := DataW.trod_int Try.underlying3 h
  simp only [List.cons.injEq, and_true] at e
  exact ⟨a, e, wa⟩

theorem levels_of {fuel : Nat} {v : Value} {y : DataW H × List MemPlace} (h : DataW.trod enc Try.prog w base spare held fuel 22 [v] = some y) :
    ∃ (A : Option Addr) (xs : List S31) (c : Nat), v = .slice A xs.length c ∧ xs.length ≤ c ∧ k31.C w A xs.length xs := by
  refine rows_of k31 Try.underlying22 Try.underlying31 (by kernel_rfl) (by kernel_rfl) rfl (fun cell hf => ?_) h
  obtain ⟨v0, y0, n0, c0, t0⟩ := hf 0 _ rfl
  obtain ⟨x0, rfl⟩ := str_of t0
  obtain ⟨v1, y1, n1, c1, t1⟩ := hf 1 _ rfl
  obtain ⟨x1, rfl, _⟩ := int_of t1
  obtain ⟨v2, y2, n2, c2, t2⟩ := hf 2 _ rfl
  obtain ⟨x2, rfl, _⟩ := int_of t2
  obtain ⟨v3, y3, n3, c3, t3⟩ := hf 3 _ rfl
  obtain ⟨x3, rfl, _⟩ := int_of t3
  obtain ⟨v4, y4, n4, c4, t4⟩ := hf 4 _ rfl
  obtain ⟨x4, rfl, _⟩ := int_of t4
  obtain ⟨v5, y5, n5, c5, t5⟩ := hf 5 _ rfl
  obtain ⟨x5, rfl, _⟩ := int_of t5
  obtain ⟨v6, y6, n6, c6, t6⟩ := hf 6 _ rfl
  obtain ⟨x6, rfl, _⟩ := int_of t6
  obtain ⟨v7, y7, n7, c7, t7⟩ := hf 7 _ rfl
  obtain ⟨x7, rfl, _⟩ := int_of t7
  obtain ⟨v8, y8, n8, c8, t8⟩ := hf 8 _ rfl
  obtain ⟨x8, rfl, _⟩ := int_of t8
  obtain ⟨v9, y9, n9, c9, t9⟩ := hf 9 _ rfl
  obtain ⟨x9, rfl, _⟩ := int_of t9
  refine ⟨⟨x0, x1, x2, x3, x4, x5, x6, x7, x8, x9⟩, [.string x0, .int .i64 x1, .int .i64 x2, .int .i64 x3, .int .i64 x4, .int .i64 x5, .int .i64 x6, .int .i64 x7, .int .i64 x8, .int .i64 x9], rfl, k31.K_of_M (k31_mkM w 0 (fun _ => False) ⟨x0, x1, x2, x3, x4, x5, x6, x7, x8, x9⟩), fun j u hj => ?_⟩
  match j, hj with
  | 0, hj => cases hj; exact c0
  | 1, hj => cases hj; exact c1
  | 2, hj => cases hj; exact c2
  | 3, hj => cases hj; exact c3
  | 4, hj => cases hj; exact c4
  | 5, hj => cases hj; exact c5
  | 6, hj => cases hj; exact c6
  | 7, hj => cases hj; exact c7
  | 8, hj => cases hj; exact c8
  | 9, hj => cases hj; exact c9
  | j + 10, hj => simp at hj
theorem rules_of {fuel : Nat} {v : Value} {y : DataW H × List MemPlace} (h : DataW.trod enc Try.prog w base spare held fuel 32 [v] = some y) :
    ∃ (A : Option Addr) (xs : List S37) (c : Nat), v = .slice A xs.length c ∧ xs.length ≤ c ∧ k37.C w A xs.length xs := by
  refine rows_of k37 Try.underlying32 Try.underlying37 (by kernel_rfl) (by kernel_rfl) rfl (fun cell hf => ?_) h
  obtain ⟨v0, y0, n0, c0, t0⟩ := hf 0 _ rfl
  obtain ⟨A0, x0, d0, rfl, l0, g0⟩ := strs_of t0
  obtain ⟨v1, y1, n1, c1, t1⟩ := hf 1 _ rfl
  obtain ⟨A1, x1, d1, rfl, l1, g1⟩ := strs_of t1
  obtain ⟨v2, y2, n2, c2, t2⟩ := hf 2 _ rfl
  obtain ⟨A2, x2, d2, rfl, l2, g2⟩ := strs_of t2
  obtain ⟨v3, y3, n3, c3, t3⟩ := hf 3 _ rfl
  obtain ⟨A3, x3, d3, rfl, l3, g3⟩ := strs_of t3
  obtain ⟨v4, y4, n4, c4, t4⟩ := hf 4 _ rfl
  obtain ⟨A4, x4, d4, rfl, l4, g4⟩ := strs_of t4
  refine ⟨⟨x0, x1, x2, x3, x4⟩, [.slice A0 x0.length d0, .slice A1 x1.length d1, .slice A2 x2.length d2, .slice A3 x3.length d3, .slice A4 x4.length d4], rfl, k37_mk w ⟨x0, x1, x2, x3, x4⟩ l0 g0 l1 g1 l2 g2 l3 g3 l4 g4, fun j u hj => ?_⟩
  match j, hj with
  | 0, hj => cases hj; exact c0
  | 1, hj => cases hj; exact c1
  | 2, hj => cases hj; exact c2
  | 3, hj => cases hj; exact c3
  | 4, hj => cases hj; exact c4
  | j + 5, hj => simp at hj
theorem schemas_of {fuel : Nat} {v : Value} {y : DataW H × List MemPlace} (h : DataW.trod enc Try.prog w base spare held fuel 23 [v] = some y) :
    ∃ (A : Option Addr) (xs : List S34) (c : Nat), v = .slice A xs.length c ∧ xs.length ≤ c ∧ k34.C w A xs.length xs := by
  refine rows_of k34 Try.underlying23 Try.underlying34 (by kernel_rfl) (by kernel_rfl) rfl (fun cell hf => ?_) h
  obtain ⟨v0, y0, n0, c0, t0⟩ := hf 0 _ rfl
  obtain ⟨x0, rfl⟩ := str_of t0
  obtain ⟨v1, y1, n1, c1, t1⟩ := hf 1 _ rfl
  obtain ⟨x1, rfl⟩ := str_of t1
  obtain ⟨v2, y2, n2, c2, t2⟩ := hf 2 _ rfl
  obtain ⟨x2, rfl, _⟩ := int_of t2
  obtain ⟨v3, y3, n3, c3, t3⟩ := hf 3 _ rfl
  obtain ⟨x3, rfl, _⟩ := int_of t3
  obtain ⟨v4, y4, n4, c4, t4⟩ := hf 4 _ rfl
  obtain ⟨A4, x4, d4, rfl, l4, g4⟩ := rules_of t4
  refine ⟨⟨x0, x1, x2, x3, x4⟩, [.string x0, .string x1, .int .i64 x2, .int .i64 x3, .slice A4 x4.length d4], rfl, k34_mk w ⟨x0, x1, x2, x3, x4⟩ l4 g4, fun j u hj => ?_⟩
  match j, hj with
  | 0, hj => cases hj; exact c0
  | 1, hj => cases hj; exact c1
  | 2, hj => cases hj; exact c2
  | 3, hj => cases hj; exact c3
  | 4, hj => cases hj; exact c4
  | j + 5, hj => simp at hj
theorem open_cfg {r : Reach} {b0 : Nat} {v : Value} {d : DataW H} {p : List MemPlace}
    (hv : Value.okWide Try.prog w r b0 25 v) (h : DataW.Trod enc Try.prog w base spare held 25 v d p) :
    ∃ (a0 a1 a2 a3 : Int) (A4 : Option Addr) (L : List S31) (c4 : Nat) (A5 : Option Addr) (S : List S34) (c5 : Nat), v = .agg #[.int .i64 a0, .int .i64 a1, .int .i64 a2, .int .i64 a3, .slice A4 L.length c4, .slice A5 S.length c5] ∧ L.length ≤ c4 ∧ k31.C w A4 L.length L ∧ S.length ≤ c5 ∧ k34.C w A5 S.length S := by
  obtain ⟨v0, v1, v2, v3, v4, v5, y0, y1, y2, y3, y4, y5, n, rfl, _, _, h0, h1, h2, h3, h4, h5⟩ := open_agg6 Try.underlying25 (by kernel_rfl) (by kernel_rfl) hv h
  obtain ⟨a0, rfl, _⟩ := int_of h0
  obtain ⟨a1, rfl, _⟩ := int_of h1
  obtain ⟨a2, rfl, _⟩ := int_of h2
  obtain ⟨a3, rfl, _⟩ := int_of h3
  obtain ⟨A4, L, c4, rfl, hl, hL⟩ := levels_of h4
  obtain ⟨A5, S, c5, rfl, hs, hS⟩ := schemas_of h5
  exact ⟨a0, a1, a2, a3, A4, L, c4, A5, S, c5, rfl, hl, hL, hs, hS⟩
end
end Go.Proofs.Ytnbnaflhijfamaa.OpenCfg
