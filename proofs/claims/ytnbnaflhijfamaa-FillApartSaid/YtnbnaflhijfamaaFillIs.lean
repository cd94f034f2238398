/- What the program's functions around fill.Fill compute, in plain words: the filled lists; copies are equal; who has a level, a schema of a name. -/
import Derived.Test.YtnbnaflhijfamaaFillWalk
namespace Go.Proofs.Ytnbnaflhijfamaa.FillIs
open Go.RowKit Go.Proofs.YtnbnaflhijfamaaW.PrintWords Go.Proofs.YtnbnaflhijfamaaW.PrintMore Go.Proofs.Ytnbnaflhijfamaa.PFillAll Go.Proofs.Ytnbnaflhijfamaa.OwnSchema Go.Proofs.Ytnbnaflhijfamaa.FillMap Go.Proofs.Ytnbnaflhijfamaa.FillWalk

def orV (a b : Int) : Int := if a = 0 then b else a
def fillL (L : List S31) : List S31 := let M := L.map (·.f0); let L1 := if cnt exS M = 0 then L ++ [exL] else L; if cnt caS M = 0 then L1 ++ [caL] else L1
def fillS (S : List S34) : List S34 := let M := S.map (·.f0); let S1 := if cnt exS M = 0 then S ++ [exC] else S; if cnt caS M = 0 then S1 ++ [caC] else S1

def RuleOk (r : S37) : Prop := r.f0.length < 1000 ∧ r.f1.length < 1000 ∧ r.f2.length < 1000 ∧ r.f3.length < 1000 ∧ r.f4.length < 1000
def SchemaOk (x : S34) : Prop := x.f0.size ≤ maxLen ∧ x.f4.length < 1000 ∧ ∀ r ∈ x.f4, RuleOk r
structure Ok (n : Nat) (L : List S31) (S : List S34) : Prop where
  l : L.length < n
  s : S.length < n
  ln : ∀ x ∈ L, x.f0.size ≤ maxLen
  sn : ∀ x ∈ S, SchemaOk x

theorem words_is {l : List ByteArray} (h : l.length < 1000) : fill_words.f l = some l := by
  unfold fill_words.f
  rw [Option.bind_some, if_pos (by simp; omega)]
  simp
theorem wordsRef_is {l : List ByteArray} (h : l.length < 1000) : usherref10_words.f l = some l := by
  unfold usherref10_words.f
  rw [Option.bind_some, if_pos (by simp; omega)]
  simp
theorem wrap_up {i n : Nat} (h : i < n) (hn : n < 1000) : wrap64 ((i : Int) + 1) = ((i + 1 : Nat) : Int) := by unfold wrap64; omega
theorem rd37_mem {l : List S37} {i : Nat} (h : i < l.length) : rd_T37 l (i : Int) = l[i] := by
  unfold rd_T37
  rw [Int.toNat_natCast, List.getD_eq_getElem?_getD, List.getElem?_eq_getElem h]
  rfl
theorem rd34_mem {l : List S34} {i : Nat} (h : i < l.length) : rd_T34 l (i : Int) = l[i] := by
  unfold rd_T34
  rw [Int.toNat_natCast, List.getD_eq_getElem?_getD, List.getElem?_eq_getElem h]
  rfl
theorem rd31_mem {l : List S31} {i : Nat} (h : i < l.length) : rd_T31 l (i : Int) = l[i] := by
  unfold rd_T31
  rw [Int.toNat_natCast, List.getD_eq_getElem?_getD, List.getElem?_eq_getElem h]
  rfl
theorem schema_at (a b : ByteArray) (c d : Int) (l : List S37) (l' : List S37) (hl : l.length < 1000) (h : ∀ r ∈ l, RuleOk r) :
    ∀ m i, i + m = l.length → fill_schema.l0 (m + 1) (l.take i) l (l.length : Int) (i : Int) a b c d l' = some (a, b, c, d, l) := by
  intro m
  induction m with
  | zero =>
    intro i hi
    have e : i = l.length := by omega
    subst e
    rw [fill_schema.l0, if_neg (by omega), List.take_length]
  | succ m ih =>
    intro i hi
    have hin : i < l.length := by omega
    obtain ⟨h0, h1, h2, h3, h4⟩ := h l[i] (List.getElem_mem hin)
    rw [fill_schema.l0, if_pos (by omega), if_pos (by omega), if_pos (by omega), rd37_mem hin, words_is h0, Option.bind_some, words_is h1, Option.bind_some, words_is h2, Option.bind_some, words_is h3, Option.bind_some, words_is h4, Option.bind_some, if_pos (by rw [List.length_take]; omega), wrap_up hin hl]
    have e : l.take i ++ [(⟨l[i].f0, l[i].f1, l[i].f2, l[i].f3, l[i].f4⟩ : S37)] = l.take (i + 1) := (List.take_succ_eq_append_getElem hin).symm
    rw [e]
    exact ih (i + 1) (by omega)
theorem schema_is (x : S34) (h : SchemaOk x) : ∃ k, fill_schema.f k x.f0 x.f1 x.f2 x.f3 x.f4 = some (x.f0, x.f1, x.f2, x.f3, x.f4) :=
  ⟨x.f4.length + 1, by unfold fill_schema.f; exact schema_at x.f0 x.f1 x.f2 x.f3 x.f4 x.f4 h.2.1 h.2.2 x.f4.length 0 (by omega)⟩

theorem or_is (a b : Int) : fill_or.f a b = some (orV a b) := by unfold fill_or.f orV; split <;> rfl

theorem fill_any (a0 a1 a2 a3 : Int) (A4 : Option Addr) (c4 : Nat) (L : List S31) (A5 : Option Addr) (c5 : Nat) (S : List S34) (w : World) (hL : Kd.C k31 w A4 L.length L) (hcL : L.length ≤ c4) (hS : Kd.C k34 w A5 S.length S) (hcS : S.length ≤ c5) (h : Ok 1000 L S) :
    Calls Try.prog 14 #[.agg #[.int .i64 a0, .int .i64 a1, .int .i64 a2, .int .i64 a3, .slice A4 L.length c4, .slice A5 S.length c5]] w fun e w' => ∃ v4 v5 : Value, e = .returned (.agg #[.int .i64 (orV a0 100), .int .i64 (orV a1 10), .int .i64 (orV a2 100), .int .i64 (orV a3 10), v4, v5]) ∧ Kd.R k31 31 w' w.heap.size (fun _ => True) v4 (fillL L) ∧ Kd.R k34 34 w' w.heap.size (fun _ => True) v5 (fillS S) ∧ Below w.heap.size w w' := by
  have hl := h.l
  have hs := h.s
  refine FillWalk.walk a0 a1 a2 a3 A4 c4 L A5 c5 S _ _ _ _ w ⟨hL⟩ ⟨hcL⟩ ⟨hS⟩ ⟨hcS⟩ ⟨or_is _ _⟩ ⟨or_is _ _⟩ ⟨or_is _ _⟩ ⟨or_is _ _⟩ ⟨⟨h.l, h.ln⟩⟩ ⟨⟨h.s, fun x hx => (h.sn x hx).1⟩⟩ ⟨fun x hx A c W hC hc => ?_⟩ _ _ ⟨rfl⟩ ⟨rfl⟩ _ (fillL L) _ (fillS S) ⟨rfl⟩ ⟨rfl⟩ ⟨rfl⟩ ⟨rfl⟩ ⟨?_, ?_⟩
  · obtain ⟨k, hk⟩ := schema_is x (h.sn x hx)
    refine (fill_schema.calls k x.f0 x.f1 x.f2 x.f3 A c x.f4 _ _ _ _ _ W hC hc hk).mono ?_
    rintro e W' ⟨v, rfl, h1, h2⟩
    exact ⟨v, rfl, Kd.S_R h1, h2⟩
  · split
    · simp; omega
    · omega
  · split
    · simp; omega
    · omega
end Go.Proofs.Ytnbnaflhijfamaa.FillIs
