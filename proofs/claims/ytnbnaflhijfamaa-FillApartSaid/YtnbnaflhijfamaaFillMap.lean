/- What a map from texts to numbers holds that counts texts: of each text how often it was counted. -/
import Derived.Test.YtnbnaflhijfamaaOwnSchema
import Derived.Maps.OwnOps
import Derived.Maps.OwnSet
import Derived.Maps.Views
namespace Go.Proofs.Ytnbnaflhijfamaa.FillMap
open Go.RowKit Go.Maps Go.Proofs.YtnbnaflhijfamaaW.PrintWords Go.Proofs.YtnbnaflhijfamaaW.PrintMore

def cnt (s : ByteArray) (L : List ByteArray) : Int := ((L.countP (fun t => decide (t = s)) : Nat) : Int)
theorem law : Keyed Try.prog 9 := string_keyed Try.underlying9
theorem zeroE (w : World) : (zeroValue 3).run Try.prog w = .ok (.int .i64 0) w := by kernel_rfl

structure MapIs (w : World) (m : Nat) (L : List ByteArray) : Prop where mk ::
  out : ∃ (D : DataW Unit) (n : Nat), w.ownsMap Try.prog 9 (plainElem Try.prog 3) m n D ∧ n ≤ L.length ∧ ∀ s : ByteArray, s.size ≤ maxLen → D.atKey (.string s.data.toList) (.lit (.int .i64 0)) = .lit (.int .i64 (cnt s L))

theorem MapIs.made (w : World) : MapIs (w.alloc (.map #[] 0)) w.heap.size [] :=
  ⟨.map [], 0, World.ownsMap_made _ _ _ _, Nat.le_refl _, fun _ _ => rfl⟩
theorem MapIs.lt {w : World} {m : Nat} {L : List ByteArray} (h : MapIs w m L) : m < w.heap.size := by
  obtain ⟨D, n, h1, _⟩ := h.out
  exact h1.lt
theorem MapIs.grown {w w' : World} {m : Nat} {L : List ByteArray} (h : MapIs w m L) {row : Option Nat} (hg : w.grownBy w' row) (hne : some m ≠ row) : MapIs w' m L := by
  obtain ⟨D, n, h1, h2⟩ := h.out
  exact ⟨D, n, h1.kept hg hne, h2⟩
theorem MapIs.below {w w' : World} {m : Nat} {L : List ByteArray} (h : MapIs w m L) (hb : Below w.heap.size w w') : MapIs w' m L :=
  h.grown (grown_of_below hb none) (by simp)
theorem MapIs.setCell {w : World} {m : Nat} {L : List ByteArray} (h : MapIs w m L) {a : Addr} (hne : m ≠ a.block) (u : Value) : MapIs (w.setCell a u) m L := by
  obtain ⟨D, n, h1, h2⟩ := h.out
  exact ⟨D, n, h1.setCell hne u, h2⟩
/-- No row's block is the map's. -/
theorem MapIs.ne {w : World} {m g t : Nat} {cells : Array Value} {fr : Nat × Nat} {L : List ByteArray} (h : MapIs w m L) (hb : w.heap[g]? = some (.cells cells t fr)) : m ≠ g := by
  obtain ⟨D, n, ⟨es, clock, h1, _⟩, _⟩ := h.out
  rintro rfl
  rw [hb] at h1
  cases h1
theorem cnt_snoc (s t : ByteArray) (L : List ByteArray) : cnt s (L ++ [t]) = if t = s then cnt s L + 1 else cnt s L := by
  unfold cnt
  rw [List.countP_append]
  by_cases h : t = s <;> simp [h]
theorem cnt_le (s : ByteArray) (L : List ByteArray) : cnt s L ≤ L.length := by
  unfold cnt
  have := List.countP_le_length (p := fun t => decide (t = s)) (l := L)
  omega
theorem cnt_nonneg (s : ByteArray) (L : List ByteArray) : 0 ≤ cnt s L := by unfold cnt; omega

section
variable {ops : Array Oper} {rest : List Oper} {o : Oper} {a : Act} {Q : Exit → Act → World → Prop} {w : World} {m : Nat} {L : List ByteArray}
theorem look_event (h : MapIs w m L) (hg : o.guard = none) (om x : Operand) (hop : o.op = Op.lookup 60 om x false) (hm : a.eval om = .map (some m)) (s : ByteArray) (hx : a.eval x = .string s) (hs : s.size ≤ maxLen)
    (hK : wpList Try.prog ops Q rest (a.put o.dst (.int .i64 (cnt s L))) w) : wpList Try.prog ops Q (o :: rest) a w := by
  obtain ⟨D, n, h1, h2, h3⟩ := h.out
  refine wpList_lookup_own_int w hg om x 60 hop 9 3 .i64 law Try.underlying60 Try.underlying3 (zeroE w) m n D hm h1 (.string s) _ hx (WideMaps.keyOf_string_mk (P := Try.prog) Try.underlying9 hs) ?_
  intro c hc _
  rw [h3 s hs] at hc
  injection hc with hc
  injection hc with _ hc
  rw [← hc]
  exact hK
theorem put_event (h : MapIs w m L) (hL : L.length < 1000000) (hg : o.guard = none) (om x v : Operand) (hop : o.op = Op.mapUpdate 60 om x v) (hm : a.eval om = .map (some m)) (s : ByteArray) (hx : a.eval x = .string s) (hs : s.size ≤ maxLen)
    (hv : a.eval v = .int .i64 (wrap64 (cnt s L + 1)))
    (hK : ∀ w', MapIs w' m (L ++ [s]) → w.grownBy w' (some m) → wpList Try.prog ops Q rest (a.put o.dst undef) w') : wpList Try.prog ops Q (o :: rest) a w := by
  obtain ⟨D, n, h1, h2, h3⟩ := h.out
  refine wpList_mapUpdate_own w hg om x v 60 hop 9 3 law Try.underlying60 _ m n D hm h1 (by unfold maxLen; omega) (.string s) _ _ hx hv (WideMaps.keyOf_string_mk (P := Try.prog) Try.underlying9 hs) _ [] (plainElem_int Try.underlying3 (wrap64_wf _)) ?_
  intro w' h4 hg'
  refine hK w' ⟨_, n + 1, h4, by simp; omega, fun t ht => ?_⟩ hg'
  have e : wrap64 (cnt s L + 1) = cnt s L + 1 := by
    have h5 := cnt_le s L
    have h6 := cnt_nonneg s L
    unfold wrap64; omega
  rw [cnt_snoc]
  by_cases hst : s = t
  · subst hst
    rw [if_pos rfl]
    exact (atKey_put_same h1.isMap (show WideAt.IsKeyLit (.string s.data.toList) from trivial) _ _).trans (by rw [e])
  · rw [if_neg hst, atKey_put_other _ _ _, h3 t ht]
    intro he
    injection he with he
    apply hst
    rcases s with ⟨⟨s⟩⟩
    rcases t with ⟨⟨t⟩⟩
    simp at he
    rw [he]
end
end Go.Proofs.Ytnbnaflhijfamaa.FillMap
