/- The contract of the reference's Flow, in the words of the plain hash; each text of at most 65536 bytes; below its own memory the world stays as it was. -/
import Derived.Test.YteiejbkohnokaaaAppendBehind
namespace Go.Proofs.Yteiejbkohnokaaa.RefFlow
open Go.RowKit Go.Lib Go.Proofs.YteiejbkohnokaaaW.PrintWords Go.Proofs.YteiejbkohnokaaaW.PrintMore Go.Proofs.Yteiejbkohnokaaa.FnvMath Go.Proofs.Yteiejbkohnokaaa.FnvCalls Go.Proofs.Yteiejbkohnokaaa.FlowCalls Go.Proofs.Yteiejbkohnokaaa.SumsIs Go.Proofs.Yteiejbkohnokaaa.AppendBehind

section
variable {P : Program} {w : World} {base : Nat} {ops : Array Oper} {rest : List Oper} {o : Oper} {a : Act} {Q : Exit → Act → World → Prop}
theorem wpList_one (hgd : o.guard = none) (s x : Operand) (t : TypeId) (ho : o.op = .call { callee := .builtin .append, args := #[s, x], argTypes := #[t, t] })
    (i : TypeInfo) (ht : P.underlying t = some (.slice 5)) (hi : P.info? 5 = some i) (hz : i.zero = some (.int .u8 0)) (hsize : i.size = 1) (hby : i.bytes = 1)
    (v : Value) (n : Nat) (xs : List Value) (hs : a.eval s = v) (h : OwnB w base v n xs) (ad : Addr) (c : Nat) (u : Value) (hx : a.eval x = .slice (some ad) 1 c)
    (hu : ∀ j y, [u][j]? = some y → w.cell? (ad.add j) = some y) (h1 : u.oneCell' = true) (hn : n + 1 ≤ 140737488355328) (hbase : base ≤ w.heap.size)
    (k : ∀ v' w', OwnB w' base v' (n + 1) (xs ++ [u]) → w.grownBy w' v.ownBlock → wpList P ops Q rest (a.put o.dst v') w') : wpList P ops Q (o :: rest) a w := by
  refine wpList_plain hgd fun K hK => ?_
  obtain ⟨v', w', hr, h2, h3⟩ := run_one (P := P) t o.type i ht hi hz hsize hby h ad c u hu h1 hn hbase
  unfold Oper.wp execOp
  simp only [ho, resolve, invoke, builtin, Sem.run_bind, Sem.run_pure, Result.andThen_ok, List.map_toArray, List.map_cons, List.map_nil, hs, hx, hr]
  exact hK _ _ (k v' w' h2 h3)
theorem wpList_text (hgd : o.guard = none) (s x : Operand) (t u : TypeId) (ho : o.op = .call { callee := .builtin .append, args := #[s, x], argTypes := #[t, u] })
    (i : TypeInfo) (ht : P.underlying t = some (.slice 5)) (hu : P.underlying u = some .string) (hi : P.info? 5 = some i) (hz : i.zero = some (.int .u8 0)) (hsize : i.size = 1) (hby : i.bytes = 1)
    (v : Value) (n : Nat) (xs : List Value) (hs : a.eval s = v) (h : OwnB w base v n xs) (y : ByteArray) (hx : a.eval x = .string y) (hn : n + y.size ≤ 140737488355328) (hbase : base ≤ w.heap.size)
    (k : ∀ v' w', OwnB w' base v' (n + y.size) (xs ++ strCells y) → w.grownBy w' v.ownBlock → wpList P ops Q rest (a.put o.dst v') w') : wpList P ops Q (o :: rest) a w := by
  refine wpList_plain hgd fun K hK => ?_
  obtain ⟨v', w', hr, h2, h3⟩ := run_text (P := P) t u o.type i ht hu hi hz hsize hby h y hn hbase
  unfold Oper.wp execOp
  simp only [ho, resolve, invoke, builtin, Sem.run_bind, Sem.run_pure, Result.andThen_ok, List.map_toArray, List.map_cons, List.map_nil, hs, hx, hr]
  exact hK _ _ (k v' w' h2 h3)
end

theorem row_size (s : ByteArray) (cap : Nat) (h : s.size ≤ cap) : (bytesRow s cap).size = cap := by
  have e : s.data.size = s.size := rfl
  unfold bytesRow
  simp [e]; omega
theorem row_take (s : ByteArray) (cap : Nat) : (bytesRow s cap).toList.take s.size = strCells s := by
  unfold bytesRow
  have e : (strCells s).length = s.size := strCells_length s
  simp only [Array.toList_append, Array.toList_map]
  rw [← e]
  exact List.take_left
theorem own_bytes (W : World) (base : Nat) (s : ByteArray) (hb : base ≤ W.heap.size) (hs : s.size ≤ maxLen) :
    OwnB (W.drew.alloc (.cells (bytesRow s (grownCap W s.size 0 5)) 5 ((bytesRow s (grownCap W s.size 0 5)).size, (bytesRow s (grownCap W s.size 0 5)).size + 1))) base (.slice (some ⟨W.heap.size, 0, none⟩) s.size (grownCap W s.size 0 5)) s.size (strCells s) := by
  have hge := grownCap_ge W s.size 0 5
  have hle := grownCap_le_maxLen W s.size 0 5 hs
  exact ⟨strCells_length s, W.heap.size, _, _, _, rfl, hb, heap_alloc_new W.drew _, .inl (by rw [row_size s _ hge]; exact Nat.le_refl _), hge, hle, row_size s _ hge, row_take s _⟩

theorem all_cells (s t : ByteArray) : strCells s ++ Value.int .u8 0 :: strCells t = nums .u8 (bytesOf s ++ 0 :: bytesOf t) := by
  simp [strCells, nums, bytesOf, Function.comp_def]
theorem all_text (s t : ByteArray) : (strOfNums (bytesOf s ++ 0 :: bytesOf t)).data.toList = s.data.toList ++ 0 :: t.data.toList := by
  rw [strOfNums_data]
  simp [bytesOf, Function.comp_def]
theorem all_hash (s t : ByteArray) : SI (strOfNums (bytesOf s ++ 0 :: bytesOf t)) = FI s t := by
  rw [FI_nat]
  unfold SI
  rw [all_text]
theorem OwnB_C {w : World} {base : Nat} {v : Value} {n : Nat} {xs : List Int} (h : OwnB w base v n (nums .u8 xs)) (hn : n ≤ 9223372036854775807) : ∃ A c, v = .slice A n c ∧ Kd.C (Kd.int .u8) w A n xs := by
  have hl := h.1
  obtain ⟨g, cap, rfl, _, hc⟩ := h.cells
  refine ⟨_, _, rfl, by simpa [nums] using hl, hn, fun _ => ⟨_, rfl, fun j p hp => ⟨[.int .u8 p], rfl, rfl, fun i u hi => ?_⟩⟩⟩
  cases i with
  | zero =>
    simp at hi; subst hi
    have := hc j (.int .u8 p) (by simp [nums, hp])
    simpa [Kd.int, Kd.scalar] using this
  | succ i => simp at hi

set_option maxHeartbeats 2000000 in
theorem ref_flow_any (s t : ByteArray) (hs : s.size ≤ 65536) (ht : t.size ≤ 65536) (w : World) :
    Calls Try.prog 20 #[.string s, .string t] w fun e w' => e = .returned (.int .u64 (FI s t)) ∧ Below w.heap.size w w' := by
  have c1 := Aside0.mk (fun w => ref_sum_any (strOfNums (bytesOf s ++ 0 :: bytesOf t)) (by rw [strOfNums_size]; simp [bytesOf_length]; omega) w)
  rw [all_hash] at c1
  generalize FI s t = z at c1 ⊢
  have hconv := fun wx => run_bytes_of_string (P := Try.prog) wx 9 27 5 s Try.underlying9 Try.underlying27 Try.underlying5
  obtain ⟨i0, hi0, hz0, hz1, hz2⟩ := info_parts (show (Try.prog.info? 5).map (fun i => (i.zero, i.size, i.bytes)) = some (some (.int .u8 0), 1, 1) by kernel_rfl)
  obtain ⟨X, hX⟩ : ∃ X, X = w.drew.alloc (.cells (bytesRow s (grownCap w s.size 0 5)) 5 ((bytesRow s (grownCap w s.size 0 5)).size, (bytesRow s (grownCap w s.size 0 5)).size + 1)) := ⟨_, rfl⟩
  have hXs : X.heap.size = w.heap.size + 1 := by rw [hX]; exact Array.size_push _
  have HX := own_bytes w w.heap.size s (Nat.le_refl _) (by unfold maxLen; omega)
  rw [← hX] at HX
  have BX : Below w.heap.size w X := by rw [hX]; exact below_alloc (below_drew (Below.refl _ _)) _
  have HO := Aside0.mk (HX.below (below_alloc (Below.refl _ _) (.cells #[.int .u8 0] 5)))
  have HB := Aside0.mk (below_alloc BX (.cells #[.int .u8 0] 5))
  have HU := cell_one_new X (.int .u8 0) 5
  rw [hXs] at HU
  have HU' := Aside0.mk HU
  clear HU HX BX hXs
  subst hX
  go_enter Try.func20, Try.ntmps20
  go_wp2_with (at_builtin; refine wpList_one rfl _ _ 27 rfl i0 Try.underlying27 hi0 hz0 hz1 hz2 _ s.size (strCells s) rfl HO.out ⟨w.heap.size + 1, 0, none⟩ 1 (.int .u8 0) rfl HU'.out rfl (by omega) HB.out.size ?_)
  intro v1 w1 ho hg
  have HO1 := Aside0.mk ho
  have HB1 : Aside0 (Below w.heap.size w w1) := ⟨HB.out.grown hg HB.out.size (by intro k hk; cases hk; exact Nat.le_refl _)⟩
  clear HO HB HU' hg ho hconv
  go_wp2_with (at_builtin; refine wpList_text rfl _ _ 27 9 rfl i0 Try.underlying27 Try.underlying9 hi0 hz0 hz1 hz2 _ (s.size + 1) (strCells s ++ [.int .u8 0]) rfl HO1.out t rfl (by omega) HB1.out.size ?_)
  intro v2 w2 ho hg
  obtain ⟨g1, hg1, hg2, _⟩ := HO1.out.block
  have HB2 : Aside0 (Below w.heap.size w w2) := ⟨HB1.out.grown hg HB1.out.size (by intro k hk; rw [hg1] at hk; cases hk; exact hg2)⟩
  rw [all_cells] at ho
  obtain ⟨A, c, rfl, hC⟩ := OwnB_C ho (by omega)
  have hstr := Kd.C_string (P := Try.prog) (c := c) Try.underlying27 Try.underlying5 Try.underlying9 hC
  clear ho hg hC hg1 hg2 HO1 HB1
  go_wp2_with fail
  refine (c1.out _).mono ?_
  rintro e w3 ⟨rfl, ⟨q, rfl⟩⟩
  go_wp2_with fail
  go_ret
  exact ⟨rfl, pw_below_drewN HB2.out q⟩
end Go.Proofs.Yteiejbkohnokaaa.RefFlow
