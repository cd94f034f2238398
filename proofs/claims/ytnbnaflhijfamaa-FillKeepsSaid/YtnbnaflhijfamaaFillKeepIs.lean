/- What is filled begins with what was told, and needs no more filling. -/
import Derived.Test.YtnbnaflhijfamaaFillLaws
namespace Go.Proofs.Ytnbnaflhijfamaa.FillKeepIs
open Go.RowKit Go.Proofs.YtnbnaflhijfamaaW.PrintWords Go.Proofs.YtnbnaflhijfamaaW.PrintMore Go.Proofs.Ytnbnaflhijfamaa.PFillAll Go.Proofs.Ytnbnaflhijfamaa.FillMap Go.Proofs.Ytnbnaflhijfamaa.FillWalk Go.Proofs.Ytnbnaflhijfamaa.FillIs Go.Proofs.Ytnbnaflhijfamaa.FillLaws

theorem orV_ne (a b : Int) (h : b ≠ 0) : orV a b ≠ 0 := by unfold orV; split <;> assumption
theorem orV_twice (a b : Int) (h : b ≠ 0) : orV (orV a b) b = orV a b := by
  have h1 := orV_ne a b h
  generalize orV a b = x at h1
  unfold orV
  rw [if_neg h1]
theorem orV_told {a : Int} (b : Int) (h : a ≠ 0) : orV a b = a := by unfold orV; rw [if_neg h]
theorem cnt_there {s : ByteArray} {A B : List ByteArray} (h : cnt s A ≠ 0) : cnt s (A ++ B) ≠ 0 := by
  unfold cnt at *
  rw [List.countP_append]
  omega
theorem cnt_last (s : ByteArray) (A : List ByteArray) : cnt s (A ++ [s]) ≠ 0 := by
  rw [cnt_snoc, if_pos rfl]
  have := cnt_nonneg s A
  omega
theorem fillL_of (L : List S31) : fillL L = (if cnt caS (L.map (·.f0)) = 0 then (if cnt exS (L.map (·.f0)) = 0 then L ++ [exL] else L) ++ [caL] else (if cnt exS (L.map (·.f0)) = 0 then L ++ [exL] else L)) := rfl
theorem fillS_of (S : List S34) : fillS S = (if cnt caS (S.map (·.f0)) = 0 then (if cnt exS (S.map (·.f0)) = 0 then S ++ [exC] else S) ++ [caC] else (if cnt exS (S.map (·.f0)) = 0 then S ++ [exC] else S)) := rfl
theorem fillL_begin (L : List S31) : ∃ X, fillL L = L ++ X := by
  rw [fillL_of]
  split <;> split
  · exact ⟨[exL] ++ [caL], by simp⟩
  · exact ⟨[caL], rfl⟩
  · exact ⟨[exL], rfl⟩
  · exact ⟨[], by simp⟩
theorem fillS_begin (S : List S34) : ∃ X, fillS S = S ++ X := by
  rw [fillS_of]
  split <;> split
  · exact ⟨[exC] ++ [caC], by simp⟩
  · exact ⟨[caC], rfl⟩
  · exact ⟨[exC], rfl⟩
  · exact ⟨[], by simp⟩
theorem fillL_names (L : List S31) : cnt exS ((fillL L).map (·.f0)) ≠ 0 ∧ cnt caS ((fillL L).map (·.f0)) ≠ 0 := by
  rw [fillL_of]
  by_cases h1 : cnt exS (L.map (·.f0)) = 0
  · rw [if_pos h1]
    by_cases h2 : cnt caS (L.map (·.f0)) = 0
    · rw [if_pos h2, List.map_append, List.map_append]
      exact ⟨cnt_there (cnt_last exS _), cnt_last caS _⟩
    · rw [if_neg h2, List.map_append]
      exact ⟨cnt_last exS _, cnt_there h2⟩
  · rw [if_neg h1]
    by_cases h2 : cnt caS (L.map (·.f0)) = 0
    · rw [if_pos h2, List.map_append]
      exact ⟨cnt_there h1, cnt_last caS _⟩
    · rw [if_neg h2]
      exact ⟨h1, h2⟩
theorem fillS_names (S : List S34) : cnt exS ((fillS S).map (·.f0)) ≠ 0 ∧ cnt caS ((fillS S).map (·.f0)) ≠ 0 := by
  rw [fillS_of]
  by_cases h1 : cnt exS (S.map (·.f0)) = 0
  · rw [if_pos h1]
    by_cases h2 : cnt caS (S.map (·.f0)) = 0
    · rw [if_pos h2, List.map_append, List.map_append]
      exact ⟨cnt_there (cnt_last exS _), cnt_last caS _⟩
    · rw [if_neg h2, List.map_append]
      exact ⟨cnt_last exS _, cnt_there h2⟩
  · rw [if_neg h1]
    by_cases h2 : cnt caS (S.map (·.f0)) = 0
    · rw [if_pos h2, List.map_append]
      exact ⟨cnt_there h1, cnt_last caS _⟩
    · rw [if_neg h2]
      exact ⟨h1, h2⟩
theorem fillL_twice (L : List S31) : fillL (fillL L) = fillL L := by
  obtain ⟨h1, h2⟩ := fillL_names L
  rw [fillL_of (fillL L), if_neg h2, if_neg h1]
theorem fillS_twice (S : List S34) : fillS (fillS S) = fillS S := by
  obtain ⟨h1, h2⟩ := fillS_names S
  rw [fillS_of (fillS S), if_neg h2, if_neg h1]
theorem C_begin {α : Type} {d : Kd α} {W : World} {A : Option Addr} {n : Nat} {xs X ys : List α} (h : d.C W A n ys) (he : ys = xs ++ X) : d.C W A xs.length xs := by
  obtain ⟨h1, h2, h3⟩ := h
  subst he
  rw [List.length_append] at h1
  refine ⟨rfl, by omega, fun hp => ?_⟩
  obtain ⟨ad, e, hc⟩ := h3 (by omega)
  refine ⟨ad, e, fun j p hj => hc j p ?_⟩
  have hl : j < xs.length := (List.getElem?_eq_some_iff.1 hj).1
  rw [List.getElem?_append_left hl]
  exact hj
theorem CC.begin_ {W : World} {A4 A5 : Option Addr} {c4 c5 : Nat} {L : List S31} {S : List S34} (h : CC W A4 c4 A5 c5 (fillL L) (fillS S)) : CC W A4 c4 A5 c5 L S := by
  obtain ⟨X, hX⟩ := fillL_begin L
  obtain ⟨Y, hY⟩ := fillS_begin S
  refine ⟨C_begin h.l hX, C_begin h.s hY, ?_, ?_⟩
  · have := h.kl
    rw [hX, List.length_append] at this
    omega
  · have := h.ks
    rw [hY, List.length_append] at this
    omega
theorem fillL_le (L : List S31) : L.length ≤ (fillL L).length := by
  obtain ⟨X, hX⟩ := fillL_begin L
  rw [hX, List.length_append]
  omega
theorem fillS_le (S : List S34) : S.length ≤ (fillS S).length := by
  obtain ⟨X, hX⟩ := fillS_begin S
  rw [hX, List.length_append]
  omega
theorem fill_again (a0 a1 a2 a3 : Int) (A4 : Option Addr) (c4 : Nat) (L : List S31) (A5 : Option Addr) (c5 : Nat) (S : List S34) (w : World) (hC : CC w A4 c4 A5 c5 (fillL L) (fillS S)) (h : Ok 900 L S) :
    Calls Try.prog 14 #[.agg #[.int .i64 (orV a0 100), .int .i64 (orV a1 10), .int .i64 (orV a2 100), .int .i64 (orV a3 10), .slice A4 (fillL L).length c4, .slice A5 (fillS S).length c5]] w fun e w' => ∃ B4 d4 B5 d5, e = .returned (.agg #[.int .i64 (orV a0 100), .int .i64 (orV a1 10), .int .i64 (orV a2 100), .int .i64 (orV a3 10), .slice B4 (fillL L).length d4, .slice B5 (fillS S).length d5]) ∧ CC w' B4 d4 B5 d5 (fillL L) (fillS S) ∧ Below w.heap.size w w' := by
  refine (fill_cc (orV a0 100) (orV a1 10) (orV a2 100) (orV a3 10) A4 c4 (fillL L) A5 c5 (fillS S) w hC (Ok.more (Ok.fill h) (by decide : 902 ≤ 1000))).mono ?_
  rintro e w' ⟨B4, d4, B5, d5, rfl, -, -, h1, h2⟩
  rw [fillL_twice, fillS_twice] at h1
  rw [orV_twice _ _ (by decide), orV_twice _ _ (by decide), orV_twice _ _ (by decide), orV_twice _ _ (by decide), fillL_twice, fillS_twice]
  exact ⟨B4, d4, B5, d5, rfl, h1, h2⟩
theorem add_zero_ (a : Addr) : a.add 0 = a := by
  unfold Addr.add
  split
  · simp
  · rename_i h
    exact absurd rfl h
theorem cut_run {t e : TypeId} (A : Option Addr) (n c m : Nat) (hm : m ≤ c) {i : TypeInfo} (ht : Try.prog.underlying t = some (.slice e)) (hi : Try.prog.info? e = some i) (W : World) :
    (Instr.slice t (.slice A n c) none (some (.int .i64 (m : Int))) none).run Try.prog W = .ok (.slice A m c) W := by
  have hel : Try.prog.elem t = e := by simp [Program.elem, ht]
  have hu : Try.prog.underlying t = some (.slice (Try.prog.elem t)) := by rw [hel]; exact ht
  rw [run_slice_h W t A n c hu .i64 (m : Int) (Int.natCast_nonneg _) (by omega), hel]
  simp [sizeOf, typeInfo, hi, sliced, Result.andThen]
  intro _
  cases A with
  | none => rfl
  | some a => simp [add_zero_]
end Go.Proofs.Ytnbnaflhijfamaa.FillKeepIs
