/- Appending to a row of bytes whose frozen mark lies behind its last cell, as a text's bytes are laid: a byte, and a text; each lemma names its own conditions. -/
import Derived.Test.YteiejbkohnokaaaSumsIs
namespace Go.Proofs.Yteiejbkohnokaaa.AppendBehind
open Go.RowKit Go.Lib Go.Proofs.YteiejbkohnokaaaW.PrintWords Go.Proofs.YteiejbkohnokaaaW.PrintMore

/-- The mark touches no cell. -/
def Clear (fz : Nat × Nat) (n : Nat) : Prop := n ≤ fz.1 ∨ fz.2 = 0
/-- The slice v of n bytes holds the bytes xs in a block of its own from base on, and no cell of it is frozen. -/
def OwnB (w : World) (base : Nat) (v : Value) (n : Nat) (xs : List Value) : Prop :=
  xs.length = n ∧ ∃ g cap cur fz, v = .slice (some ⟨g, 0, none⟩) n cap ∧ base ≤ g ∧ w.heap[g]? = some (.cells cur 5 fz) ∧ Clear fz cap ∧ n ≤ cap ∧ cap ≤ maxLen ∧ cur.size = cap ∧ cur.toList.take n = xs

theorem store_clear (P : Program) (g : Nat) (fz : Nat × Nat) (n : Nat) (hfz : Clear fz n) : ∀ (vs : List Value) (o i : Nat) (cur : Array Value) (w : World), w.heap[g]? = some (.cells cur 5 fz) → cur.size = n → o + i + vs.length ≤ n → (∀ v ∈ vs, v.oneCell' = true) →
    (storeCells ⟨g, o, none⟩ vs i).run P w = .ok () (w.setRow g (cur.toList.take (o + i) ++ vs ++ cur.toList.drop (o + i + vs.length)).toArray) := by
  intro vs
  induction vs with
  | nil =>
    intro o i cur w hg _ _ _
    have e : (cur.toList.take (o + i) ++ [] ++ cur.toList.drop (o + i + ([] : List Value).length)).toArray = cur := by simp
    rw [e, setRow_self w g cur 5 fz hg]
    rfl
  | cons v rest ih =>
    intro o i cur w hg hn hl h1
    have hl' : o + i + (rest.length + 1) ≤ n := by simpa using hl
    have hadd : (⟨g, o, none⟩ : Addr).add i = ⟨g, o + i, none⟩ := by unfold Addr.add; split <;> simp_all
    have hcell : w.cell? ⟨g, o + i, none⟩ = some (cur[o + i]'(by omega)) := by
      rw [cell_of_row w g (o + i) cur 5 fz hg, Array.getElem?_eq_getElem]
    have hfro : w.frozen? ⟨g, o + i, none⟩ = false := by
      obtain ⟨a, b⟩ := fz
      have : ¬ (a ≤ o + i ∧ o + i < b) := by rcases hfz with h | h <;> simp only at h <;> omega
      simp only [World.frozen?, hg]
      by_cases h1 : a ≤ o + i <;> by_cases h2 : o + i < b <;> simp [h1, h2] <;> omega
    have first : (store ((⟨g, o, none⟩ : Addr).add i) v).run P w = .ok () (w.setRow g (cur.setIfInBounds (o + i) v)) := by
      rw [hadd, run_store P w _ v _ (h1 v (List.mem_cons_self ..)), hcell]
      simp [hfro, setCell_eq_setRow w g (o + i) cur 5 fz v hg]
    have next := ih o (i + 1) (cur.setIfInBounds (o + i) v) (w.setRow g (cur.setIfInBounds (o + i) v)) (setRow_heap w g cur _ 5 fz hg) (by simpa using hn) (by omega) (fun x hx => h1 x (List.mem_cons_of_mem _ hx))
    simp only [storeCells, Sem.run_bind, first, Result.andThen_ok, next, setRow_setRow]
    have seg := list_seg_step cur.toList (o + i) v rest (by have e := (Array.length_toList : cur.toList.length = cur.size); omega)
    congr 3
    simpa [Array.toList_setIfInBounds, Nat.add_assoc] using seg

section
variable {P : Program} {w : World} {base : Nat} {v : Value} {n : Nat} {xs : List Value}
theorem OwnB.block (h : OwnB w base v n xs) : ∃ g, v.ownBlock = some g ∧ base ≤ g ∧ g < w.heap.size := by
  obtain ⟨_, g, cap, cur, fz, rfl, hb, hg, _⟩ := h
  exact ⟨g, rfl, hb, (Array.getElem?_eq_some_iff.1 hg).1⟩
theorem OwnB.cells (h : OwnB w base v n xs) : ∃ g cap, v = .slice (some ⟨g, 0, none⟩) n cap ∧ n ≤ cap ∧ ∀ j u, xs[j]? = some u → w.cell? ((⟨g, 0, none⟩ : Addr).add j) = some u := by
  obtain ⟨_, g, cap, cur, fz, rfl, _, hg, _, hc, _, _, ht⟩ := h
  refine ⟨g, cap, rfl, hc, fun j u hu => ?_⟩
  rw [add_plain, cell_of_row w g _ cur 5 fz hg]
  rw [← ht, List.getElem?_take] at hu
  split at hu
  · simpa using hu
  · cases hu
theorem OwnB.below {w1 : World} (h : OwnB w base v n xs) (hb : Below w.heap.size w w1) : OwnB w1 base v n xs := by
  obtain ⟨h0, g, cap, cur, fz, hv, hg0, hg, rest⟩ := h
  exact ⟨h0, g, cap, cur, fz, hv, hg0, (hb.block g (Array.getElem?_eq_some_iff.1 hg).1).trans hg, rest⟩

/-- What is behind an append with room. -/
theorem own_room {g cap : Nat} {cur : Array Value} {fz : Nat × Nat} {news : List Value} (hb : base ≤ g) (hg : w.heap[g]? = some (.cells cur 5 fz)) (hfz : Clear fz cap) (hm : cap ≤ maxLen) (hs : cur.size = cap) (ht : cur.toList.take n = xs) (hx : xs.length = n) (hr : n + news.length ≤ cap) :
    OwnB (w.setRow g (cur.toList.take n ++ news ++ cur.toList.drop (n + news.length)).toArray) base (.slice (some ⟨g, 0, none⟩) (n + news.length) cap) (n + news.length) (xs ++ news) ∧ w.grownBy (w.setRow g (cur.toList.take n ++ news ++ cur.toList.drop (n + news.length)).toArray) (some g) := by
  refine ⟨⟨by simp [hx], g, cap, _, fz, rfl, hb, setRow_heap w g cur _ 5 fz hg, hfz, hr, hm, ?_, ?_⟩, ⟨rfl, rfl, rfl, by simp, fun k _ hk => setRow_other w g k _ (fun e => hk (by rw [e]))⟩⟩
  · simp only [List.size_toArray, List.length_append, List.length_take, List.length_drop, Array.length_toList]
    omega
  · have e : (xs ++ news).length = n + news.length := by simp [hx]
    show (cur.toList.take n ++ news ++ cur.toList.drop (n + news.length)).take (n + news.length) = xs ++ news
    rw [ht, ← e]
    exact List.take_left

theorem own_grown (W : World) {row : Array Value} {cap : Nat} {news : List Value} (hb : base ≤ W.heap.size) (hr : n + news.length ≤ cap) (hm : cap ≤ maxLen) (hs : row.size = cap) (hx : xs.length = n) (ht : row.toList.take (n + news.length) = xs ++ news) :
    OwnB (W.drew.alloc (.cells row 5)) base (.slice (some ⟨W.heap.size, 0, none⟩) (n + news.length) cap) (n + news.length) (xs ++ news) ∧ W.grownBy (W.drew.alloc (.cells row 5)) (v.ownBlock) :=
  ⟨⟨by simp [hx], W.heap.size, cap, row, (0, 0), rfl, hb, heap_alloc_new W.drew _, .inr rfl, hr, hm, hs, ht⟩, ⟨rfl, rfl, rfl, by simp, fun k hk _ => Below.heap_alloc W.drew _ k hk⟩⟩

/-- One byte behind them. -/
theorem run_one (t ty : TypeId) (i : TypeInfo) (ht : P.underlying t = some (.slice 5)) (hi : P.info? 5 = some i) (hz : i.zero = some (.int .u8 0)) (hsize : i.size = 1) (hby : i.bytes = 1)
    (h : OwnB w base v n xs) (a : Addr) (c : Nat) (u : Value) (hu : ∀ j x, [u][j]? = some x → w.cell? (a.add j) = some x) (h1 : u.oneCell' = true) (hn : n + 1 ≤ 140737488355328) (hbase : base ≤ w.heap.size) :
    ∃ v' w', (Builtin.append_ #[t, t] ty #[v, .slice (some a) 1 c]).run P w = .ok v' w' ∧ OwnB w' base v' (n + 1) (xs ++ [u]) ∧ w.grownBy w' v.ownBlock := by
  have hc := h.cells
  obtain ⟨hx, g, cap, cur, fz, rfl, hb, hg, hfz, hnc, hm, hs, htk⟩ := h
  by_cases hroom : n + 1 ≤ cap
  · have hf := run_firstCells_some (P := P) w 1 1 a 1 c [u] rfl hu
    have hst := store_clear P g fz cap hfz [u] n 0 cur w hg hs (by simpa using hroom) (by simpa using h1)
    simp only [Nat.add_zero] at hst
    have r := own_room (w := w) (news := [u]) hb hg hfz hm hs htk hx (by simpa using hroom)
    refine ⟨_, _, ?_, r⟩
    simp [Builtin.append_, run_underlying ht, sizeOf, typeInfo, hi, hsize, Builtin.lenOf, hroom, hf, Addr.add_lit, hst]
  · obtain ⟨g', cap', e, _, hcells⟩ := hc
    cases e
    have hmax : n + 1 ≤ maxLen := by unfold maxLen; omega
    have hr := run_append_grow (P := P) w t ty 5 i (.int .u8 0) ht hi hz ⟨g, 0, none⟩ n cap xs (by rw [hsize]; simpa using hx) hcells a 1 c [u] (by rw [hsize]; rfl) hu (by omega) (by omega) (by rw [hby]; exact growslice_fits (by omega) (by omega))
    have hge := grownCap_ge w (n + 1) cap 5
    have hle := grownCap_le_maxLen w (n + 1) cap 5 hmax
    refine ⟨_, _, hr, own_grown (v := .slice (some ⟨g, 0, none⟩) n cap) w (news := [u]) hbase hge hle ?_ hx ?_⟩
    · have hz1 : (Value.int IntKind.u8 0).cells.size = 1 := rfl
      simp only [Array.size_append, List.size_toArray, size_zeroCells, hz1, hx, List.length_singleton]
      omega
    · have e : (xs ++ [u]).length = n + [u].length := by simp [hx]
      simp only [Array.toList_append, List.append_assoc]
      rw [← List.append_assoc, ← e]
      exact List.take_left

/-- A text behind them. -/
theorem run_text (t u ty : TypeId) (i : TypeInfo) (ht : P.underlying t = some (.slice 5)) (hu : P.underlying u = some .string) (hi : P.info? 5 = some i) (hz : i.zero = some (.int .u8 0)) (hsize : i.size = 1) (hby : i.bytes = 1)
    (h : OwnB w base v n xs) (s : ByteArray) (hn : n + s.size ≤ 140737488355328) (hbase : base ≤ w.heap.size) :
    ∃ v' w', (Builtin.append_ #[t, u] ty #[v, .string s]).run P w = .ok v' w' ∧ OwnB w' base v' (n + s.size) (xs ++ strCells s) ∧ w.grownBy w' v.ownBlock := by
  have hc := h.cells
  have hsl := strCells_length s
  obtain ⟨hx, g, cap, cur, fz, rfl, hb, hg, hfz, hnc, hm, hs, htk⟩ := h
  by_cases hroom : n + s.size ≤ cap
  · have hf := run_firstCells_string (P := P) w 1 s
    have hst := store_clear P g fz cap hfz (strCells s) n 0 cur w hg hs (by rw [hsl]; simpa using hroom) (strCells_oneCell s)
    simp only [Nat.add_zero] at hst
    have r := own_room (w := w) (news := strCells s) hb hg hfz hm hs htk hx (by rw [hsl]; exact hroom)
    rw [hsl] at r hst
    refine ⟨_, _, ?_, r⟩
    simp [Builtin.append_, run_underlying ht, run_underlying hu, sizeOf, typeInfo, hi, hsize, Builtin.lenOf, hroom, hf, Addr.add_lit, hst]
  · obtain ⟨g', cap', e, _, hcells⟩ := hc
    cases e
    have hmax : n + s.size ≤ maxLen := by unfold maxLen; omega
    have hr := run_append_grow_string (P := P) w t u ty 5 i (.int .u8 0) ht hu hi hz ⟨g, 0, none⟩ n cap xs (by rw [hsize]; simpa using hx) hcells s (by omega) (by omega) (by rw [hby]; exact growslice_fits (by omega) (by omega))
    have hge := grownCap_ge w (n + s.size) cap 5
    have hle := grownCap_le_maxLen w (n + s.size) cap 5 hmax
    have q := own_grown (v := .slice (some ⟨g, 0, none⟩) n cap) (base := base) (xs := xs) (n := n) w (news := strCells s) (row := xs.toArray ++ (strCells s).toArray ++ Builtin.zeroCells (Value.int .u8 0).cells (grownCap w (n + s.size) cap 5 - (n + s.size))) (cap := grownCap w (n + s.size) cap 5) hbase (by rw [hsl]; exact hge) hle ?_ hx ?_
    · rw [hsl] at q
      exact ⟨_, _, hr, q⟩
    · have hz1 : (Value.int IntKind.u8 0).cells.size = 1 := rfl
      simp only [Array.size_append, List.size_toArray, size_zeroCells, hz1, hx, hsl]
      omega
    · have e : (xs ++ strCells s).length = n + (strCells s).length := by simp [hx]
      simp only [Array.toList_append, List.append_assoc]
      rw [← List.append_assoc, ← e]
      exact List.take_left
end
end Go.Proofs.Yteiejbkohnokaaa.AppendBehind
