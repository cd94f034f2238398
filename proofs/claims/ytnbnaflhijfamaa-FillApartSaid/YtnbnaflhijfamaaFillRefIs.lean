/- What the reference's copy and its two questions compute: the same configuration; whether a name is there. -/
import Derived.Test.YtnbnaflhijfamaaFillIs
namespace Go.Proofs.Ytnbnaflhijfamaa.FillRefIs
open Go.RowKit Go.Proofs.YtnbnaflhijfamaaW.PrintWords Go.Proofs.YtnbnaflhijfamaaW.PrintMore Go.Proofs.Ytnbnaflhijfamaa.PFillAll Go.Proofs.Ytnbnaflhijfamaa.FillMap Go.Proofs.Ytnbnaflhijfamaa.FillWalk Go.Proofs.Ytnbnaflhijfamaa.FillIs

theorem bytes_eq {a b : ByteArray} (h : a.toList = b.toList) : a = b := by
  rw [ByteArray.toList_eq, ByteArray.toList_eq] at h
  exact ByteArray.ext (Array.ext' h)

def hasName (s : ByteArray) (M : List ByteArray) : Bool := M.any (fun t => decide (t = s))
theorem hasName_cnt (s : ByteArray) (M : List ByteArray) : (hasName s M = true) ↔ cnt s M ≠ 0 := by
  unfold hasName cnt
  rw [List.any_eq_true, Ne, Int.natCast_eq_zero, List.countP_eq_zero]
  constructor
  · rintro ⟨t, ht, h⟩ hn
    exact hn t ht h
  · intro h
    apply Classical.byContradiction
    intro hn
    apply h
    intro t ht hd
    exact hn ⟨t, ht, hd⟩

theorem level_at (s : ByteArray) (a b c d : Int) (L : List S31) (S : List S34) (hl : L.length < 1000) : ∀ m i, i + m = L.length → usherref12_hasLevel.l0 (m + 1) s (i : Int) a b c d L S = some (hasName s ((L.drop i).map (·.f0))) := by
  intro m
  induction m with
  | zero =>
    intro i hi
    rw [usherref12_hasLevel.l0, if_neg (by omega), List.drop_eq_nil_of_le (by omega)]
    rfl
  | succ m ih =>
    intro i hi
    have hin : i < L.length := by omega
    rw [usherref12_hasLevel.l0, if_pos (by omega), if_pos (by omega), rd31_mem hin, List.drop_eq_getElem_cons hin]
    unfold hasName
    rw [List.map_cons, List.any_cons]
    by_cases h : L[i].f0 = s
    · rw [if_pos (by rw [h]), decide_eq_true h]
      rfl
    · rw [if_neg (fun h2 => h (bytes_eq h2)), wrap_up hin hl, ih (i + 1) (by omega), decide_eq_false h]
      rfl
theorem schemaName_at (s : ByteArray) (a b c d : Int) (L : List S31) (S : List S34) (hl : S.length < 1000) : ∀ m i, i + m = S.length → usherref12_hasSchema.l0 (m + 1) s (i : Int) a b c d L S = some (hasName s ((S.drop i).map (·.f0))) := by
  intro m
  induction m with
  | zero =>
    intro i hi
    rw [usherref12_hasSchema.l0, if_neg (by omega), List.drop_eq_nil_of_le (by omega)]
    rfl
  | succ m ih =>
    intro i hi
    have hin : i < S.length := by omega
    rw [usherref12_hasSchema.l0, if_pos (by omega), if_pos (by omega), rd34_mem hin, List.drop_eq_getElem_cons hin]
    unfold hasName
    rw [List.map_cons, List.any_cons]
    by_cases h : S[i].f0 = s
    · rw [if_pos (by rw [h]), decide_eq_true h]
      rfl
    · rw [if_neg (fun h2 => h (bytes_eq h2)), wrap_up hin hl, ih (i + 1) (by omega), decide_eq_false h]
      rfl
theorem hasLevel_any (a0 a1 a2 a3 : Int) (A4 : Option Addr) (c4 : Nat) (L : List S31) (A5 : Option Addr) (c5 : Nat) (S : List S34) (s : ByteArray) (w : World) (hL : Kd.C k31 w A4 L.length L) (hcL : L.length ≤ c4) (hS : Kd.C k34 w A5 S.length S) (hcS : S.length ≤ c5) (h : Ok 1000 L S) :
    Calls Try.prog 31 #[.agg #[.int .i64 a0, .int .i64 a1, .int .i64 a2, .int .i64 a3, .slice A4 L.length c4, .slice A5 S.length c5], .string s] w fun e w' => e = .returned (.bool (hasName s (L.map (·.f0)))) ∧ Below w.heap.size w w' :=
  usherref12_hasLevel.calls (L.length + 1) a0 a1 a2 a3 A4 c4 L A5 c5 S s _ w hL hcL hS hcS (level_at s a0 a1 a2 a3 L S h.l L.length 0 (by omega))
theorem hasSchema_any (a0 a1 a2 a3 : Int) (A4 : Option Addr) (c4 : Nat) (L : List S31) (A5 : Option Addr) (c5 : Nat) (S : List S34) (s : ByteArray) (w : World) (hL : Kd.C k31 w A4 L.length L) (hcL : L.length ≤ c4) (hS : Kd.C k34 w A5 S.length S) (hcS : S.length ≤ c5) (h : Ok 1000 L S) :
    Calls Try.prog 32 #[.agg #[.int .i64 a0, .int .i64 a1, .int .i64 a2, .int .i64 a3, .slice A4 L.length c4, .slice A5 S.length c5], .string s] w fun e w' => e = .returned (.bool (hasName s (S.map (·.f0)))) ∧ Below w.heap.size w w' :=
  usherref12_hasSchema.calls (S.length + 1) a0 a1 a2 a3 A4 c4 L A5 c5 S s _ w hL hcL hS hcS (schemaName_at s a0 a1 a2 a3 L S h.s S.length 0 (by omega))

theorem copy_rules (a b c d : Int) (L : List S31) (S : List S34) (x : S34) (hx : SchemaOk x) (i k : Nat) (T : List S34) (r : Int × Int × Int × Int × List S31 × List S34) (hT : T.length < 1000) (hk : usherref10_Copy.l0 k (T ++ [x]) (wrap64 ((i : Int) + 1)) a b c d L S = some r) :
    ∀ m j, j + m = x.f4.length → usherref10_Copy.l1 (k + m + 1) T (i : Int) (x.f4.take j) (j : Int) a b c d L S x.f0 x.f1 x.f2 x.f3 x.f4 = some r := by
  intro m
  induction m with
  | zero =>
    intro j hj
    have e : j = x.f4.length := by omega
    subst e
    rw [usherref10_Copy.l1, if_neg (by omega), if_pos (by omega), List.take_length]
    exact hk
  | succ m ih =>
    intro j hj
    have hin : j < x.f4.length := by omega
    obtain ⟨h0, h1, h2, h3, h4⟩ := hx.2.2 x.f4[j] (List.getElem_mem hin)
    rw [show k + (m + 1) + 1 = (k + m + 1) + 1 by omega, usherref10_Copy.l1, if_pos (by omega), if_pos (by omega), rd37_mem hin, wordsRef_is h0, Option.bind_some, wordsRef_is h1, Option.bind_some, wordsRef_is h2, Option.bind_some, wordsRef_is h3, Option.bind_some, wordsRef_is h4, Option.bind_some, if_pos (by have := hx.2.1; rw [List.length_take]; omega), wrap_up hin hx.2.1]
    have e : x.f4.take j ++ [(⟨x.f4[j].f0, x.f4[j].f1, x.f4[j].f2, x.f4[j].f3, x.f4[j].f4⟩ : S37)] = x.f4.take (j + 1) := (List.take_succ_eq_append_getElem hin).symm
    rw [e]
    exact ih (j + 1) (by omega)
theorem copy_at (a b c d : Int) (L : List S31) (S : List S34) (h : Ok 1000 L S) : ∀ m i, i + m = S.length → ∃ k, usherref10_Copy.l0 k (S.take i) (i : Int) a b c d L S = some (a, b, c, d, L, S) := by
  intro m
  induction m with
  | zero =>
    intro i hi
    have e : i = S.length := by omega
    subst e
    exact ⟨1, by rw [usherref10_Copy.l0, if_neg (by omega), List.take_length]⟩
  | succ m ih =>
    intro i hi
    have hin : i < S.length := by omega
    obtain ⟨k, hk⟩ := ih (i + 1) (by omega)
    have hx := h.sn S[i] (List.getElem_mem hin)
    refine ⟨(k + S[i].f4.length + 1) + 1, ?_⟩
    rw [usherref10_Copy.l0, if_pos (by omega), if_pos (by omega), rd34_mem hin]
    refine copy_rules a b c d L S S[i] hx i k (S.take i) _ (by have := h.s; rw [List.length_take]; omega) ?_ S[i].f4.length 0 (by omega)
    rw [wrap_up hin h.s, ← List.take_succ_eq_append_getElem hin]
    exact hk
theorem copy_any (a0 a1 a2 a3 : Int) (A4 : Option Addr) (c4 : Nat) (L : List S31) (A5 : Option Addr) (c5 : Nat) (S : List S34) (w : World) (hL : Kd.C k31 w A4 L.length L) (hcL : L.length ≤ c4) (hS : Kd.C k34 w A5 S.length S) (hcS : S.length ≤ c5) (h : Ok 1000 L S) :
    Calls Try.prog 13 #[.agg #[.int .i64 a0, .int .i64 a1, .int .i64 a2, .int .i64 a3, .slice A4 L.length c4, .slice A5 S.length c5]] w fun e w' => ∃ v4 v5 : Value, e = .returned (.agg #[.int .i64 a0, .int .i64 a1, .int .i64 a2, .int .i64 a3, v4, v5]) ∧ Kd.R k31 31 w' w.heap.size (fun _ => True) v4 L ∧ Kd.R k34 34 w' w.heap.size (fun _ => True) v5 S ∧ Below w.heap.size w w' := by
  obtain ⟨k, hk⟩ := copy_at a0 a1 a2 a3 L S h S.length 0 (by omega)
  refine usherref10_Copy.calls k a0 a1 a2 a3 A4 c4 L A5 c5 S _ _ _ _ _ _ w hL hcL hS hcS ?_
  unfold usherref10_Copy.f
  have := h.l
  rw [Option.bind_some, if_pos (by simp; omega)]
  exact hk
end Go.Proofs.Ytnbnaflhijfamaa.FillRefIs
