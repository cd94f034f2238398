/- What the laws of layer 12 lean on: contracts of fill.Fill, the reference's fill, the copy, the comparison over whole configurations. -/
import Derived.Test.YtnbnaflhijfamaaFillSameCfg
import Derived.Test.YtnbnaflhijfamaaFillRef
import Derived.Test.YtnbnaflhijfamaaFillSmall
namespace Go.Proofs.Ytnbnaflhijfamaa.FillLaws
open Go.RowKit Go.Proofs.YtnbnaflhijfamaaW.PrintWords Go.Proofs.YtnbnaflhijfamaaW.PrintLast Go.Proofs.YtnbnaflhijfamaaW.PrintMore Go.Proofs.Ytnbnaflhijfamaa.PFillAll Go.Proofs.Ytnbnaflhijfamaa.FillMap Go.Proofs.Ytnbnaflhijfamaa.FillWalk Go.Proofs.Ytnbnaflhijfamaa.FillIs Go.Proofs.Ytnbnaflhijfamaa.FillRefIs Go.Proofs.Ytnbnaflhijfamaa.FillSmall

/-- The levels and the schemas of a configuration, read. -/
structure CC (W : World) (A4 : Option Addr) (c4 : Nat) (A5 : Option Addr) (c5 : Nat) (L : List S31) (S : List S34) : Prop where
  l : k31.C W A4 L.length L
  s : k34.C W A5 S.length S
  kl : L.length ≤ c4
  ks : S.length ≤ c5
theorem CC.below {W W' : World} {A4 A5 : Option Addr} {c4 c5 : Nat} {L : List S31} {S : List S34} (h : CC W A4 c4 A5 c5 L S) (hb : Below W.heap.size W W') : CC W' A4 c4 A5 c5 L S := ⟨Kd.C_below h.l hb, Kd.C_below h.s hb, h.kl, h.ks⟩
theorem cc_of {W : World} {b : Nat} {v4 v5 : Value} {L : List S31} {S : List S34} (h4 : k31.R 31 W b (fun _ => True) v4 L) (h5 : k34.R 34 W b (fun _ => True) v5 S) :
    ∃ A4 c4 A5 c5, v4 = .slice A4 L.length c4 ∧ v5 = .slice A5 S.length c5 ∧ CC W A4 c4 A5 c5 L S := by
  obtain ⟨A4, c4, e4, k4, C4⟩ := Kd.R_reads h4
  obtain ⟨A5, c5, e5, k5, C5⟩ := Kd.R_reads h5
  exact ⟨A4, c4, A5, c5, e4, e5, C4, C5, k4, k5⟩

theorem exL_ok : exL.f0.size ≤ maxLen := by unfold maxLen; show 6 ≤ _; omega
theorem caL_ok : caL.f0.size ≤ maxLen := by unfold maxLen; show 9 ≤ _; omega
theorem exC_ok : SchemaOk exC := ⟨by unfold maxLen; show 6 ≤ _; omega, by decide, fun r hr => by
  obtain rfl := List.mem_singleton.1 hr
  exact ⟨by decide, by decide, by decide, by decide, by decide⟩⟩
theorem caC_ok : SchemaOk caC := ⟨by unfold maxLen; show 9 ≤ _; omega, by decide, fun r hr => by
  obtain rfl := List.mem_singleton.1 hr
  exact ⟨by decide, by decide, by decide, by decide, by decide⟩⟩
theorem mem_add {α : Type} {b : Prop} [Decidable b] {l : List α} {x y : α} (h : y ∈ (if b then l ++ [x] else l)) : y ∈ l ∨ y = x := by
  split at h
  · rcases List.mem_append.1 h with h | h
    · exact .inl h
    · exact .inr (List.mem_singleton.1 h)
  · exact .inl h
theorem len_add {α : Type} (b : Prop) [Decidable b] (l : List α) (x : α) : (if b then l ++ [x] else l).length ≤ l.length + 1 := by
  split
  · simp
  · omega
theorem fillL_mem {L : List S31} {x : S31} (h : x ∈ fillL L) : x ∈ L ∨ x = exL ∨ x = caL := by
  rcases mem_add h with h | h
  · rcases mem_add h with h | h
    · exact .inl h
    · exact .inr (.inl h)
  · exact .inr (.inr h)
theorem fillS_mem {S : List S34} {x : S34} (h : x ∈ fillS S) : x ∈ S ∨ x = exC ∨ x = caC := by
  rcases mem_add h with h | h
  · rcases mem_add h with h | h
    · exact .inl h
    · exact .inr (.inl h)
  · exact .inr (.inr h)
theorem fillL_len (L : List S31) : (fillL L).length ≤ L.length + 2 := by
  have h1 := len_add (cnt caS (L.map (·.f0)) = 0) (if cnt exS (L.map (·.f0)) = 0 then L ++ [exL] else L) caL
  have h2 := len_add (cnt exS (L.map (·.f0)) = 0) L exL
  show (if cnt caS (L.map (·.f0)) = 0 then (if cnt exS (L.map (·.f0)) = 0 then L ++ [exL] else L) ++ [caL] else (if cnt exS (L.map (·.f0)) = 0 then L ++ [exL] else L)).length ≤ _
  omega
theorem fillS_len (S : List S34) : (fillS S).length ≤ S.length + 2 := by
  have h1 := len_add (cnt caS (S.map (·.f0)) = 0) (if cnt exS (S.map (·.f0)) = 0 then S ++ [exC] else S) caC
  have h2 := len_add (cnt exS (S.map (·.f0)) = 0) S exC
  show (if cnt caS (S.map (·.f0)) = 0 then (if cnt exS (S.map (·.f0)) = 0 then S ++ [exC] else S) ++ [caC] else (if cnt exS (S.map (·.f0)) = 0 then S ++ [exC] else S)).length ≤ _
  omega
theorem Ok.more {n m : Nat} {L : List S31} {S : List S34} (h : Ok n L S) (hm : n ≤ m) : Ok m L S := ⟨Nat.lt_of_lt_of_le h.l hm, Nat.lt_of_lt_of_le h.s hm, h.ln, h.sn⟩
theorem Ok.fill {n : Nat} {L : List S31} {S : List S34} (h : Ok n L S) : Ok (n + 2) (fillL L) (fillS S) := by
  have h1 := fillL_len L
  have h2 := fillS_len S
  have h3 := h.l
  have h4 := h.s
  refine ⟨by omega, by omega, fun x hx => ?_, fun x hx => ?_⟩
  · rcases fillL_mem hx with hx | rfl | rfl
    · exact h.ln x hx
    · exact exL_ok
    · exact caL_ok
  · rcases fillS_mem hx with hx | rfl | rfl
    · exact h.sn x hx
    · exact exC_ok
    · exact caC_ok

theorem ref_any (a0 a1 a2 a3 : Int) (A4 : Option Addr) (c4 : Nat) (L : List S31) (A5 : Option Addr) (c5 : Nat) (S : List S34) (w : World) (hC : CC w A4 c4 A5 c5 L S) (h : Ok 1000 L S) :
    Calls Try.prog 16 #[.agg #[.int .i64 a0, .int .i64 a1, .int .i64 a2, .int .i64 a3, .slice A4 L.length c4, .slice A5 S.length c5]] w fun e w' => ∃ B4 d4 B5 d5, e = .returned (.agg #[.int .i64 (orV a0 100), .int .i64 (orV a1 10), .int .i64 (orV a2 100), .int .i64 (orV a3 10), .slice B4 (fillL L).length d4, .slice B5 (fillS S).length d5]) ∧ CC w' B4 d4 B5 d5 (fillL L) (fillS S) ∧ Below w.heap.size w w' := by
  have hl := h.l
  have hs := h.s
  refine (FillRef.ref_walk a0 a1 a2 a3 A4 c4 L A5 c5 S w ⟨hC.l⟩ ⟨hC.kl⟩ ⟨hC.s⟩ ⟨hC.ks⟩ ⟨h⟩ _ _ ⟨rfl⟩ ⟨rfl⟩ _ (fillL L) _ (fillS S) ⟨rfl⟩ ⟨rfl⟩ ⟨rfl⟩ ⟨rfl⟩ ⟨?_, ?_⟩).mono ?_
  · have := len_add (cnt exS (L.map (·.f0)) = 0) L exL
    omega
  · have := len_add (cnt exS (S.map (·.f0)) = 0) S exC
    omega
  · rintro e w' ⟨v4, v5, rfl, h4, h5, hb⟩
    obtain ⟨B4, d4, B5, d5, rfl, rfl, hcc⟩ := cc_of h4 h5
    exact ⟨B4, d4, B5, d5, rfl, hcc, hb⟩
theorem fill_cc (a0 a1 a2 a3 : Int) (A4 : Option Addr) (c4 : Nat) (L : List S31) (A5 : Option Addr) (c5 : Nat) (S : List S34) (w : World) (hC : CC w A4 c4 A5 c5 L S) (h : Ok 1000 L S) :
    Calls Try.prog 14 #[.agg #[.int .i64 a0, .int .i64 a1, .int .i64 a2, .int .i64 a3, .slice A4 L.length c4, .slice A5 S.length c5]] w fun e w' => ∃ B4 d4 B5 d5, e = .returned (.agg #[.int .i64 (orV a0 100), .int .i64 (orV a1 10), .int .i64 (orV a2 100), .int .i64 (orV a3 10), .slice B4 (fillL L).length d4, .slice B5 (fillS S).length d5]) ∧ k31.R 31 w' w.heap.size (fun _ => True) (.slice B4 (fillL L).length d4) (fillL L) ∧ k34.R 34 w' w.heap.size (fun _ => True) (.slice B5 (fillS S).length d5) (fillS S) ∧ CC w' B4 d4 B5 d5 (fillL L) (fillS S) ∧ Below w.heap.size w w' := by
  refine (fill_any a0 a1 a2 a3 A4 c4 L A5 c5 S w hC.l hC.kl hC.s hC.ks h).mono ?_
  rintro e w' ⟨v4, v5, rfl, h4, h5, hb⟩
  obtain ⟨B4, d4, B5, d5, rfl, rfl, hcc⟩ := cc_of h4 h5
  exact ⟨B4, d4, B5, d5, rfl, h4, h5, hcc, hb⟩
theorem copy_cc (a0 a1 a2 a3 : Int) (A4 : Option Addr) (c4 : Nat) (L : List S31) (A5 : Option Addr) (c5 : Nat) (S : List S34) (w : World) (hC : CC w A4 c4 A5 c5 L S) (h : Ok 1000 L S) :
    Calls Try.prog 13 #[.agg #[.int .i64 a0, .int .i64 a1, .int .i64 a2, .int .i64 a3, .slice A4 L.length c4, .slice A5 S.length c5]] w fun e w' => ∃ B4 d4 B5 d5, e = .returned (.agg #[.int .i64 a0, .int .i64 a1, .int .i64 a2, .int .i64 a3, .slice B4 L.length d4, .slice B5 S.length d5]) ∧ CC w' B4 d4 B5 d5 L S ∧ Below w.heap.size w w' := by
  refine (copy_any a0 a1 a2 a3 A4 c4 L A5 c5 S w hC.l hC.kl hC.s hC.ks h).mono ?_
  rintro e w' ⟨v4, v5, rfl, h4, h5, hb⟩
  obtain ⟨B4, d4, B5, d5, rfl, rfl, hcc⟩ := cc_of h4 h5
  exact ⟨B4, d4, B5, d5, rfl, hcc, hb⟩
theorem same_cc (a0 a1 a2 a3 : Int) (A4 B4 : Option Addr) (c4 d4 : Nat) (L : List S31) (A5 B5 : Option Addr) (c5 d5 : Nat) (S : List S34) (w : World) (hA : CC w A4 c4 A5 c5 L S) (hB : CC w B4 d4 B5 d5 L S) (h : Ok 1000 L S) :
    Calls Try.prog 15 #[.agg #[.int .i64 a0, .int .i64 a1, .int .i64 a2, .int .i64 a3, .slice A4 L.length c4, .slice A5 S.length c5], .agg #[.int .i64 a0, .int .i64 a1, .int .i64 a2, .int .i64 a3, .slice B4 L.length d4, .slice B5 S.length d5]] w fun e w' => e = .returned (.bool true) ∧ Below w.heap.size w w' :=
  FillSameCfg.same_cfg a0 a1 a2 a3 A4 A5 B4 B5 c4 c5 d4 d5 L S w ⟨hA.l⟩ ⟨hA.kl⟩ ⟨hA.s⟩ ⟨hA.ks⟩ ⟨hB.l⟩ ⟨hB.kl⟩ ⟨hB.s⟩ ⟨hB.ks⟩ ⟨h⟩
theorem small_cc (a0 a1 a2 a3 : Int) (A4 : Option Addr) (c4 : Nat) (L : List S31) (A5 : Option Addr) (c5 : Nat) (S : List S34) (w : World) (hC : CC w A4 c4 A5 c5 L S) :
    Calls Try.prog 12 #[.agg #[.int .i64 a0, .int .i64 a1, .int .i64 a2, .int .i64 a3, .slice A4 L.length c4, .slice A5 S.length c5]] w fun e w' => ∃ b : Bool, e = .returned (.bool b) ∧ (b = true → Ok 900 L S) ∧ Below w.heap.size w w' := by
  refine (small_any a0 a1 a2 a3 A4 c4 L A5 c5 S w ⟨hC.l⟩ ⟨hC.kl⟩ ⟨hC.s⟩ ⟨hC.ks⟩).mono ?_
  rintro e w' ⟨b, rfl, h, hb⟩
  exact ⟨b, rfl, fun hh => (h hh).ok, hb⟩
end Go.Proofs.Ytnbnaflhijfamaa.FillLaws
