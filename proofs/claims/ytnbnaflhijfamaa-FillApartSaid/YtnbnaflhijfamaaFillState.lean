/- What the walk of fill.Fill knows of the world: three boxes, two maps, two rows of its own. -/
import Derived.Test.YtnbnaflhijfamaaFillMap
namespace Go.Proofs.Ytnbnaflhijfamaa.FillState
open Go.RowKit Go.Proofs.YtnbnaflhijfamaaW.PrintWords Go.Proofs.YtnbnaflhijfamaaW.PrintMore Go.Proofs.Ytnbnaflhijfamaa.PFillAll Go.Proofs.Ytnbnaflhijfamaa.FillMap

structure St (w W : World) (g1 g2 g3 m4 m5 : Nat) (a1 a2 a3 : Array Value) (vL : Value) (LL : List S31) (vS : Value) (SS : List S34) (L4 L5 : List ByteArray) : Prop where
  b1 : W.heap[g1]? = some (.cells a1 25 (0, 0))
  b2 : W.heap[g2]? = some (.cells a2 25 (0, 0))
  b3 : W.heap[g3]? = some (.cells a3 25 (0, 0))
  h4 : MapIs W m4 L4
  h5 : MapIs W m5 L5
  hL : Kd.R k31 31 W w.heap.size (fun _ => True) vL LL
  hS : Kd.R k34 34 W w.heap.size (fun _ => True) vS SS
  hB : Below w.heap.size w W
  e3 : w.heap.size ≤ g3
  e4 : w.heap.size ≤ m4
  e5 : w.heap.size ≤ m5
  n45 : m4 ≠ m5
  n13 : g1 ≠ g3
  n23 : g2 ≠ g3

variable {w W W' : World} {g1 g2 g3 m4 m5 : Nat} {a1 a2 a3 : Array Value} {vL vS : Value} {LL : List S31} {SS : List S34} {L4 L5 : List ByteArray}

theorem St.size (h : St w W g1 g2 g3 m4 m5 a1 a2 a3 vL LL vS SS L4 L5) : w.heap.size ≤ W.heap.size := h.hB.size

theorem St.below (h : St w W g1 g2 g3 m4 m5 a1 a2 a3 vL LL vS SS L4 L5) (hb : Below W.heap.size W W') : St w W' g1 g2 g3 m4 m5 a1 a2 a3 vL LL vS SS L4 L5 :=
  ⟨blk_below h.b1 hb, blk_below h.b2 hb, blk_below h.b3 hb, h.h4.below hb, h.h5.below hb, Kd.R_below h.hL hb, Kd.R_below h.hS hb, below_step h.hB hb, h.e3, h.e4, h.e5, h.n45, h.n13, h.n23⟩

/-- A store into the box of the result. -/
theorem St.set3 (h : St w W g1 g2 g3 m4 m5 a1 a2 a3 vL LL vS SS L4 L5) (j : Nat) (u : Value) : St w (W.setCell ⟨g3, j, none⟩ u) g1 g2 g3 m4 m5 a1 a2 (a3.setIfInBounds j u) vL LL vS SS L4 L5 :=
  ⟨blk_far h.b1 h.n13 _, blk_far h.b2 h.n23 _, blk_set h.b3 _ _, h.h4.setCell (h.h4.ne h.b3) _, h.h5.setCell (h.h5.ne h.b3) _,
    Kd.R_mono (Kd.R_far (p := ⟨g3, j, none⟩) (Kd.R_types h.hL h.b3 (by decide)) (fun _ hk => hk.2) u) (fun _ _ => trivial),
    Kd.R_mono (Kd.R_far (p := ⟨g3, j, none⟩) (Kd.R_types h.hS h.b3 (by decide)) (fun _ hk => hk.2) u) (fun _ _ => trivial),
    below_set h.hB h.e3, h.e3, h.e4, h.e5, h.n45, h.n13, h.n23⟩

/-- A store into the box of what is handed back. -/
theorem St.set2 (h : St w W g1 g2 g3 m4 m5 a1 a2 a3 vL LL vS SS L4 L5) (n12 : g1 ≠ g2) (e2 : w.heap.size ≤ g2) (j : Nat) (u : Value) : St w (W.setCell ⟨g2, j, none⟩ u) g1 g2 g3 m4 m5 a1 (a2.setIfInBounds j u) a3 vL LL vS SS L4 L5 :=
  ⟨blk_far h.b1 n12 _, blk_set h.b2 _ _, blk_far h.b3 (Ne.symm h.n23) _, h.h4.setCell (h.h4.ne h.b2) _, h.h5.setCell (h.h5.ne h.b2) _,
    Kd.R_mono (Kd.R_far (p := ⟨g2, j, none⟩) (Kd.R_types h.hL h.b2 (by decide)) (fun _ hk => hk.2) u) (fun _ _ => trivial),
    Kd.R_mono (Kd.R_far (p := ⟨g2, j, none⟩) (Kd.R_types h.hS h.b2 (by decide)) (fun _ hk => hk.2) u) (fun _ _ => trivial),
    below_set h.hB e2, h.e3, h.e4, h.e5, h.n45, h.n13, h.n23⟩
theorem R_noMap {α : Type} {d : Kd α} {e base m : Nat} {ok : Nat → Prop} {v : Value} {xs : List α} {L : List ByteArray} (h : d.R e W base ok v xs) (hm : MapIs W m L) (hg : W.grownBy W' (some m)) : d.R e W' base ok v xs := by
  refine Kd.R_mono (Kd.R_grown (Kd.R_bound h) hg (fun k hk he => ?_)) (fun _ hk => hk.1)
  obtain ⟨_, _, _, q, _, cells, hc⟩ := hk
  injection he with he
  exact hm.ne hc he.symm

/-- The first map has been written. -/
theorem St.map4 (h : St w W g1 g2 g3 m4 m5 a1 a2 a3 vL LL vS SS L4 L5) {L' : List ByteArray} (hm : MapIs W' m4 L') (hg : W.grownBy W' (some m4)) : St w W' g1 g2 g3 m4 m5 a1 a2 a3 vL LL vS SS L' L5 :=
  ⟨blk_grown h.b1 hg (fun he => h.h4.ne h.b1 (Option.some.inj he).symm), blk_grown h.b2 hg (fun he => h.h4.ne h.b2 (Option.some.inj he).symm), blk_grown h.b3 hg (fun he => h.h4.ne h.b3 (Option.some.inj he).symm),
    hm, h.h5.grown hg (fun he => h.n45 (Option.some.inj he).symm), R_noMap h.hL h.h4 hg, R_noMap h.hS h.h4 hg,
    h.hB.grown hg h.size (fun k hk => by cases hk; exact h.e4), h.e3, h.e4, h.e5, h.n45, h.n13, h.n23⟩

theorem St.map5 (h : St w W g1 g2 g3 m4 m5 a1 a2 a3 vL LL vS SS L4 L5) {L' : List ByteArray} (hm : MapIs W' m5 L') (hg : W.grownBy W' (some m5)) : St w W' g1 g2 g3 m4 m5 a1 a2 a3 vL LL vS SS L4 L' :=
  ⟨blk_grown h.b1 hg (fun he => h.h5.ne h.b1 (Option.some.inj he).symm), blk_grown h.b2 hg (fun he => h.h5.ne h.b2 (Option.some.inj he).symm), blk_grown h.b3 hg (fun he => h.h5.ne h.b3 (Option.some.inj he).symm),
    h.h4.grown hg (fun he => h.n45 (Option.some.inj he)), hm, R_noMap h.hL h.h5 hg, R_noMap h.hS h.h5 hg,
    h.hB.grown hg h.size (fun k hk => by cases hk; exact h.e5), h.e3, h.e4, h.e5, h.n45, h.n13, h.n23⟩

theorem row_ne {α : Type} {d : Kd α} {e base g t : Nat} {ok : Nat → Prop} {v : Value} {xs : List α} {cells : Array Value} (h : d.R e W base ok v xs) (hb : W.heap[g]? = some (.cells cells t (0, 0))) (ht : e ≠ t) : some g ≠ v.ownBlock := by
  intro he
  obtain ⟨c, hc⟩ := Kd.R_typed h g he.symm
  rw [hb] at hc
  injection hc with hc
  injection hc with _ hc
  exact ht hc.symm
theorem row_noMap {α : Type} {d : Kd α} {e base m : Nat} {ok : Nat → Prop} {v : Value} {xs : List α} {L : List ByteArray} (h : d.R e W base ok v xs) (hm : MapIs W m L) : some m ≠ v.ownBlock := by
  intro he
  obtain ⟨c, hc⟩ := Kd.R_typed h m he.symm
  exact hm.ne hc rfl

/-- A level has been appended. -/
theorem St.addL (h : St w W g1 g2 g3 m4 m5 a1 a2 a3 vL LL vS SS L4 L5) {v' : Value} {L' : List S31} (hr : Kd.R k31 31 W' w.heap.size (fun _ => True) v' L') (hb : Below w.heap.size w W') (hg : W.grownBy W' vL.ownBlock) : St w W' g1 g2 g3 m4 m5 a1 a2 a3 v' L' vS SS L4 L5 :=
  ⟨blk_grown h.b1 hg (row_ne h.hL h.b1 (by decide)), blk_grown h.b2 hg (row_ne h.hL h.b2 (by decide)), blk_grown h.b3 hg (row_ne h.hL h.b3 (by decide)),
    h.h4.grown hg (row_noMap h.hL h.h4), h.h5.grown hg (row_noMap h.hL h.h5), hr, Kd.R_over' h.hS (Kd.R_typed h.hL) (by decide) hg,
    hb, h.e3, h.e4, h.e5, h.n45, h.n13, h.n23⟩
/-- A schema has been appended. -/
theorem St.addS (h : St w W g1 g2 g3 m4 m5 a1 a2 a3 vL LL vS SS L4 L5) {v' : Value} {S' : List S34} (hr : Kd.R k34 34 W' w.heap.size (fun _ => True) v' S') (hb : Below w.heap.size w W') (hg : W.grownBy W' vS.ownBlock) : St w W' g1 g2 g3 m4 m5 a1 a2 a3 vL LL v' S' L4 L5 :=
  ⟨blk_grown h.b1 hg (row_ne h.hS h.b1 (by decide)), blk_grown h.b2 hg (row_ne h.hS h.b2 (by decide)), blk_grown h.b3 hg (row_ne h.hS h.b3 (by decide)),
    h.h4.grown hg (row_noMap h.hS h.h4), h.h5.grown hg (row_noMap h.hS h.h5), Kd.R_over' h.hL (Kd.R_typed h.hS) (by decide) hg, hr,
    hb, h.e3, h.e4, h.e5, h.n45, h.n13, h.n23⟩
theorem St.cell3 (h : St w W g1 g2 g3 m4 m5 a1 a2 a3 vL LL vS SS L4 L5) (j : Nat) : W.cell? ⟨g3, j, none⟩ = a3[j]? := blk_cell h.b3 j
theorem St.cell1 (h : St w W g1 g2 g3 m4 m5 a1 a2 a3 vL LL vS SS L4 L5) (j : Nat) : W.cell? ⟨g1, j, none⟩ = a1[j]? := blk_cell h.b1 j
theorem St.froz3 (h : St w W g1 g2 g3 m4 m5 a1 a2 a3 vL LL vS SS L4 L5) (j : Nat) : W.frozen? ⟨g3, j, none⟩ = false := blk_frozen h.b3 j
theorem St.froz2 (h : St w W g1 g2 g3 m4 m5 a1 a2 a3 vL LL vS SS L4 L5) (j : Nat) : W.frozen? ⟨g2, j, none⟩ = false := blk_frozen h.b2 j
end Go.Proofs.Ytnbnaflhijfamaa.FillState
