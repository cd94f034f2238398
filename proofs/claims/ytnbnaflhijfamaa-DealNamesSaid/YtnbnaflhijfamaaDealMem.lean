/- Blocks of whole numbers in memory, and the contract of slices.Delete of one element upon such a block; each lemma names its own conditions. -/
import Derived.Test.YtnbnaflhijfamaaShelf
import Derived.Test.YtnbnaflhijfamaaWMore
import Derived.Laws.IdiomCopy
import Derived.Deep.OwnRows
namespace Go.Proofs.Ytnbnaflhijfamaa.DealMem
open Go.RowKit Go.Proofs.YtnbnaflhijfamaaW.PrintWords

def intsA (L : List Int) : Array Value := (L.map (Value.int .i64)).toArray
/-- Block g holds just these numbers. -/
def blkL (w : World) (g : Nat) (L : List Int) : Prop := w.heap[g]? = some (.cells (intsA L) 3 (0, 0))
theorem blkL_cell {w : World} {g : Nat} {L : List Int} (h : blkL w g L) (j : Nat) (hj : j < L.length) : w.cell? ⟨g, j, none⟩ = some (.int .i64 (L.getD j 0)) := by
  rw [blk_cell h j]
  simp [intsA, List.getElem?_eq_getElem hj, List.getD_eq_getElem?_getD]
theorem blkL_frozen {w : World} {g : Nat} {L : List Int} (h : blkL w g L) (j : Nat) : w.frozen? ⟨g, j, none⟩ = false := blk_frozen h j
theorem blkL_set {w : World} {g : Nat} {L : List Int} (h : blkL w g L) (i : Nat) (u : Int) : blkL (w.setCell ⟨g, i, none⟩ (.int .i64 u)) g (L.set i u) := by
  have := blk_set h i (.int .i64 u)
  unfold blkL
  rw [this]
  congr 2
  simp [intsA, List.map_set]
theorem blkL_setCells (g : Nat) : ∀ (vs : List Int) (A B : List Int) (w : World), vs.length ≤ B.length → blkL w g (A ++ B) → blkL (w.setCells g A.length (vs.map (Value.int .i64))) g (A ++ (vs ++ B.drop vs.length))
  | [], A, B, w, _, h => by simpa [World.setCells] using h
  | v :: r, A, [], w, hl, h => by simp at hl
  | v :: r, A, b :: B, w, hl, h => by
    have h1 := blkL_set h A.length v
    have e : (A ++ b :: B).set A.length v = (A ++ [v]) ++ B := by simp
    rw [e] at h1
    have h2 := blkL_setCells g r (A ++ [v]) B _ (by simpa using hl) h1
    simp only [List.map_cons, World.setCells]
    simpa using h2
theorem grown_setCells (g : Nat) : ∀ (vs : List Value) (o : Nat) (w : World), w.grownBy (w.setCells g o vs) (some g)
  | [], o, w => ⟨rfl, rfl, rfl, Nat.le_refl _, fun _ _ _ => rfl⟩
  | v :: r, o, w => by
    have h1 : w.grownBy (w.setCell ⟨g, o, none⟩ v) (some g) := ⟨rfl, rfl, rfl, by simp [World.setCell], fun k _ hk => Below.heap_setCell w ⟨g, o, none⟩ v k (by simpa using hk)⟩
    exact h1.trans (grown_setCells g r (o + 1) _)
theorem grown_drewN (w : World) (q : Nat) (row : Option Nat) : w.grownBy (w.drewN q) row := grown_of_below (pw_below_drewN (Below.refl _ _) q) row
theorem blkL_drewN {w : World} {g : Nat} {L : List Int} (h : blkL w g L) (q : Nat) : blkL (w.drewN q) g L := h
theorem blkL_grown {w w1 : World} {g g' : Nat} {L : List Int} (h : blkL w g L) (hg : w.grownBy w1 (some g')) (hne : g ≠ g') : blkL w1 g L := blk_grown h hg (by simpa using hne)

theorem delete_any (g m cap : Nat) (L T : List Int) (k : Nat) (x y : Int) (w : World) (hb : blkL w g (L ++ T)) (hm : L.length = m) (hk : k < m) (hc : m ≤ cap) (hcm : cap ≤ 9223372036854775807) (hx : x = k) (hy : y = k + 1) :
    Calls Try.prog 33 #[.slice (some ⟨g, 0, none⟩) m cap, .int .i64 x, .int .i64 y] w fun e w' => e = .returned (.slice (some ⟨g, 0, none⟩) (m - 1) cap) ∧ blkL w' g (L.eraseIdx k ++ 0 :: T) ∧ w.grownBy w' (some g) := by
  subst hx
  obtain rfl : y = ((k + 1 : Nat) : Int) := by omega
  refine (Try.slices_Delete_int_cells g 0 m cap k (k + 1) (L ++ T) w (by simp; omega) hc hcm (by omega) (by omega) (fun j hj => ?_) (fun j _ => ?_)).mono ?_
  · rw [Nat.zero_add]; exact blkL_cell hb j hj
  · rw [Nat.zero_add]; exact blkL_frozen hb j
  · rintro e w' ⟨rfl, q, rfl⟩
    refine ⟨by rw [show k + 1 - k = 1 by omega], ?_, (grown_drewN w q _).trans (grown_setCells g _ _ _)⟩
    have ht : (L ++ T).take m = L := by rw [← hm]; simp
    rw [ht]
    have hlen : (L.take k ++ L.drop (k + 1) ++ List.replicate (k + 1 - k) (0 : Int)).length = m := by
      simp; omega
    have := blkL_setCells g (L.take k ++ L.drop (k + 1) ++ List.replicate (k + 1 - k) 0) [] (L ++ T) (w.drewN q) (by rw [hlen]; simp; omega) (blkL_drewN hb q)
    rw [hlen] at this
    have e1 : (L ++ T).drop m = T := by rw [← hm]; simp
    rw [e1] at this
    have e2 : L.take k ++ L.drop (k + 1) ++ List.replicate (k + 1 - k) (0 : Int) ++ T = L.eraseIdx k ++ 0 :: T := by
      rw [List.eraseIdx_eq_take_drop_succ, show k + 1 - k = 1 by omega]; simp
    simp only [List.nil_append, List.length_nil] at this
    rw [e2] at this
    exact this
end Go.Proofs.Ytnbnaflhijfamaa.DealMem
