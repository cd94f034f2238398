/- The shape of filled memory: rows of levels, of schemas, of rules, of texts, whatever they say; what is written over them keeps the shape. -/
import Derived.Test.YtnbnaflhijfamaaFillLaws
namespace Go.Proofs.Ytnbnaflhijfamaa.FillShape
open Go.RowKit Go.Proofs.YtnbnaflhijfamaaW.PrintWords Go.Proofs.YtnbnaflhijfamaaW.PrintMore Go.Proofs.Ytnbnaflhijfamaa.PFillAll
set_option linter.unusedVariables false

def nilV : Value := .slice none 0 0
/-- A row of n elements of s cells of type t, in a block from b on, where it has any; Q tells of each cell. -/
def Row (t s : Nat) (Q : World → Nat → Value → Prop) (b : Nat) (W : World) (A : Option Addr) (n : Nat) : Prop :=
  0 < n → ∃ (g : Nat) (cs : Array Value), A = some ⟨g, 0, none⟩ ∧ b ≤ g ∧ W.heap[g]? = some (.cells cs t (0, 0)) ∧ (n * s ≤ cs.size ∧ n ≤ 9223372036854775807) ∧ ∀ (j : Nat) (u : Value), j < n * s → cs[j]? = some u → Q W j u
def S9 (b : Nat) (W : World) (v : Value) : Prop := ∃ A n c, v = .slice A n c ∧ Row 9 1 (fun _ _ _ => True) b W A n
def S31_ (b : Nat) (W : World) (v : Value) : Prop := ∃ A n c, v = .slice A n c ∧ Row 31 10 (fun _ _ _ => True) b W A n
def S37_ (b : Nat) (W : World) (v : Value) : Prop := ∃ A n c, v = .slice A n c ∧ Row 37 5 (fun W _ u => S9 b W u) b W A n
def S34_ (b : Nat) (W : World) (v : Value) : Prop := ∃ A n c, v = .slice A n c ∧ Row 34 5 (fun W j u => j % 5 = 4 → S37_ b W u) b W A n

/-- What a world's turning keeps: each block's type and size; of rows of rules each cell or nil, of rows of schemas each last cell or nil. -/
def Keep (W W' : World) : Prop := ∀ (g : Nat) (cs : Array Value) (t : TypeId), W.heap[g]? = some (.cells cs t (0, 0)) → ∃ cs' : Array Value, W'.heap[g]? = some (.cells cs' t (0, 0)) ∧ cs'.size = cs.size ∧
  (t = 37 → ∀ (j : Nat) (u : Value), cs'[j]? = some u → cs[j]? = some u ∨ u = nilV) ∧ (t = 34 → ∀ (j : Nat) (u : Value), j % 5 = 4 → cs'[j]? = some u → cs[j]? = some u ∨ u = nilV)
variable {W W' : World} {b : Nat} {v : Value}
theorem S9.nil : S9 b W nilV := ⟨none, 0, 0, rfl, fun h => absurd h (by decide)⟩
theorem S37_.nil : S37_ b W nilV := ⟨none, 0, 0, rfl, fun h => absurd h (by decide)⟩
theorem S9.keep (h : S9 b W v) (k : Keep W W') : S9 b W' v := by
  obtain ⟨A, n, c, rfl, hr⟩ := h
  refine ⟨A, n, c, rfl, fun hn => ?_⟩
  obtain ⟨g, cs, h1, h2, h3, h4, _⟩ := hr hn
  obtain ⟨cs', k1, k2, _⟩ := k g cs 9 h3
  exact ⟨g, cs', h1, h2, k1, by omega, fun _ _ _ _ => trivial⟩
theorem S31_.keep (h : S31_ b W v) (k : Keep W W') : S31_ b W' v := by
  obtain ⟨A, n, c, rfl, hr⟩ := h
  refine ⟨A, n, c, rfl, fun hn => ?_⟩
  obtain ⟨g, cs, h1, h2, h3, h4, _⟩ := hr hn
  obtain ⟨cs', k1, k2, _⟩ := k g cs 31 h3
  exact ⟨g, cs', h1, h2, k1, by omega, fun _ _ _ _ => trivial⟩
theorem S37_.keep (h : S37_ b W v) (k : Keep W W') : S37_ b W' v := by
  obtain ⟨A, n, c, rfl, hr⟩ := h
  refine ⟨A, n, c, rfl, fun hn => ?_⟩
  obtain ⟨g, cs, h1, h2, h3, h4, h5⟩ := hr hn
  obtain ⟨cs', k1, k2, k3, _⟩ := k g cs 37 h3
  refine ⟨g, cs', h1, h2, k1, by omega, fun j u hj hu => ?_⟩
  rcases k3 rfl j u hu with h6 | rfl
  · exact (h5 j u hj h6).keep k
  · exact S9.nil
theorem S34_.keep (h : S34_ b W v) (k : Keep W W') : S34_ b W' v := by
  obtain ⟨A, n, c, rfl, hr⟩ := h
  refine ⟨A, n, c, rfl, fun hn => ?_⟩
  obtain ⟨g, cs, h1, h2, h3, h4, h5⟩ := hr hn
  obtain ⟨cs', k1, k2, _, k4⟩ := k g cs 34 h3
  refine ⟨g, cs', h1, h2, k1, by omega, fun j u hj hu hm => ?_⟩
  rcases k4 rfl j u hm hu with h6 | rfl
  · exact (h5 j u hj h6 hm).keep k
  · exact S37_.nil
theorem Keep.same (h : ∀ g, g < W.heap.size → W'.heap[g]? = W.heap[g]?) : Keep W W' := fun g cs t hg =>
  ⟨cs, (h g (blk_lt hg)).trans hg, rfl, fun _ _ _ h => .inl h, fun _ _ _ _ h => .inl h⟩
theorem Keep.refl (W : World) : Keep W W := Keep.same (fun _ _ => rfl)
theorem Keep.below (h : Below W.heap.size W W') : Keep W W' := Keep.same h.block
/-- A store into a row: of rules where it is nil; of schemas where it is no last cell, or nil. -/
theorem Keep.set {g j t : Nat} {cs : Array Value} {u : Value} (hg : W.heap[g]? = some (.cells cs t (0, 0))) (h37 : t = 37 → u = nilV) (h34 : t = 34 → j % 5 = 4 → u = nilV) : Keep W (W.setCell ⟨g, j, none⟩ u) := by
  intro g' cs' t' hg'
  by_cases e : g' = g
  · subst e
    rw [hg] at hg'
    injection hg' with hg'
    injection hg' with e1 e2
    subst e1 e2
    have key : ∀ (i : Nat) (x : Value), (cs.setIfInBounds j u)[i]? = some x → cs[i]? = some x ∨ (j = i ∧ x = u) := by
      intro i x hx
      by_cases hji : j = i
      · subst hji
        right
        rw [Array.getElem?_setIfInBounds_self] at hx
        split at hx
        · exact ⟨rfl, (Option.some.inj hx).symm⟩
        · cases hx
      · left
        rw [Array.getElem?_setIfInBounds_ne hji] at hx
        exact hx
    refine ⟨cs.setIfInBounds j u, blk_set hg j u, by simp, fun e3 i x hx => ?_, fun e3 i x hm hx => ?_⟩
    · rcases key i x hx with h | ⟨h1, h2⟩
      · exact .inl h
      · exact .inr (h2.trans (h37 e3))
    · rcases key i x hx with h | ⟨h1, h2⟩
      · exact .inl h
      · exact .inr (h2.trans (h34 e3 (by omega)))
  · exact ⟨cs', blk_far hg' e u, rfl, fun _ _ _ h => .inl h, fun _ _ _ _ h => .inl h⟩
theorem row_of {α : Type} {d : Kd α} {e s : Nat} {ok : Nat → Prop} {xs : List α} {Q : World → Nat → Value → Prop} (z : α) (hs : d.sz = s) (hs0 : 0 < s) (h : d.R e W b ok v xs)
    (hq : ∀ (x : α) (cl : List Value) (i j : Nat) (u : Value) (ok' : Nat → Prop), d.M W b ok' x cl → cl[j]? = some u → j < s → Q W (i * s + j) u) : ∃ A c, v = .slice A xs.length c ∧ Row e s Q b W A xs.length := by
  have hR := h
  obtain ⟨_, inner, ho, _⟩ := h
  rcases ho.2 with ⟨rfl, h0⟩ | ⟨g, cap, cur, rfl, hg, hh, r⟩
  · have h0' : xs.length = 0 := by omega
    exact ⟨none, 0, by rw [h0'], fun hn => by omega⟩
  · refine ⟨_, _, rfl, fun hn => ⟨g, cur, rfl, hg, hh, ?_⟩⟩
    have key : ∀ i, i < xs.length → ∃ cl : List Value, cl.length = s ∧ (∃ ok', d.M W b ok' (xs.getD i z) cl) ∧ ∀ j u, cl[j]? = some u → cur[i * s + j]? = some u := by
      intro i hi
      obtain ⟨cl, hl, hM, hc, _⟩ := Kd.R_elem hR z (i : Int) (by omega) (by omega)
      rw [Int.toNat_natCast] at hM hc
      rw [hs] at hl hc
      exact ⟨cl, hl, ⟨_, hM⟩, fun j u hu => (blk_cell hh _).symm.trans (hc j u hu)⟩
    refine ⟨⟨?_, (Kd.R_reads' hR).2.2.2.1⟩, fun j u hj hu => ?_⟩
    · obtain ⟨cl, hl, _, hc⟩ := key (xs.length - 1) (by omega)
      have h1 := hc (s - 1) _ (List.getElem?_eq_getElem (by omega))
      have h2 := (Array.getElem?_eq_some_iff.1 h1).1
      have h3 : (xs.length - 1) * s + (s - 1) + 1 = xs.length * s := by
        have : xs.length * s = (xs.length - 1) * s + s := by rw [← Nat.succ_mul]; congr 1; omega
        omega
      omega
    · have hi : j / s < xs.length := by rw [Nat.div_lt_iff_lt_mul hs0]; exact hj
      have hm : j % s < s := Nat.mod_lt _ hs0
      have e1 : j / s * s + j % s = j := by rw [Nat.mul_comm]; exact Nat.div_add_mod j s
      obtain ⟨cl, hl, ⟨ok', hM⟩, hc⟩ := key (j / s) hi
      have h1 := List.getElem?_eq_getElem (l := cl) (i := j % s) (by omega)
      have h2 := hc (j % s) _ h1
      rw [e1, hu] at h2
      have h3 := hq _ cl (j / s) (j % s) _ ok' hM h1 hm
      rw [e1, ← Option.some.inj h2] at h3
      exact h3
theorem S9.of {ok : Nat → Prop} {xs : List ByteArray} (h : Kd.string.R 9 W b ok v xs) : S9 b W v := by
  obtain ⟨A, c, e, hr⟩ := row_of ByteArray.empty rfl (by decide) h (Q := fun _ _ _ => True) (fun _ _ _ _ _ _ _ _ _ => trivial)
  exact ⟨A, _, c, e, hr⟩
theorem S31_.of {ok : Nat → Prop} {xs : List S31} (h : k31.R 31 W b ok v xs) : S31_ b W v := by
  obtain ⟨A, c, e, hr⟩ := row_of z31 rfl (by decide) h (Q := fun _ _ _ => True) (fun _ _ _ _ _ _ _ _ _ => trivial)
  exact ⟨A, _, c, e, hr⟩
theorem S37_.of {ok : Nat → Prop} {xs : List S37} (h : k37.R 37 W b ok v xs) : S37_ b W v := by
  obtain ⟨A, c, e, hr⟩ := row_of z37 rfl (by decide) h (Q := fun W _ u => S9 b W u) (fun x cl i j u ok' hM hu hj => by
    obtain ⟨v0, v1, v2, v3, v4, rfl, r0, r1, r2, r3, r4⟩ := k37_openM hM
    match j, hj with
    | 0, _ => cases hu; exact S9.of r0
    | 1, _ => cases hu; exact S9.of r1
    | 2, _ => cases hu; exact S9.of r2
    | 3, _ => cases hu; exact S9.of r3
    | 4, _ => cases hu; exact S9.of r4)
  exact ⟨A, _, c, e, hr⟩
theorem S34_.of {ok : Nat → Prop} {xs : List S34} (h : k34.R 34 W b ok v xs) : S34_ b W v := by
  obtain ⟨A, c, e, hr⟩ := row_of z34 rfl (by decide) h (Q := fun W j u => j % 5 = 4 → S37_ b W u) (fun x cl i j u ok' hM hu hj hm => by
    obtain ⟨v4, rfl, r4⟩ := k34_openM hM
    replace hm : (i * 5 + j) % 5 = 4 := hm
    replace hj : j < 5 := hj
    have e : j = 4 := by omega
    subst e
    cases hu
    exact S37_.of r4)
  exact ⟨A, _, c, e, hr⟩
end Go.Proofs.Ytnbnaflhijfamaa.FillShape
