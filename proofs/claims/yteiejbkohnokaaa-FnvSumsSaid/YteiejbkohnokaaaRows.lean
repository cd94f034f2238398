/-
  No cell of these rows narrows 'for every input' (looked for: loops, veiled, ifaces, maps, wideKeys, modest, calm, conditions, laid).
  DERIVED. THE GIVEN ROWS OF THIS SEAT. 11 by the template 'for every input the law returns true; each argument reads behind the call as it read before'; 0 by the template 'total and deterministic' (their statements: YteiejbkohnokaaaTotals.lean).
  GIVEN WITH THE SEED: the statements are not yours to turn. If you find one false, say at which input.
  Laid BY PROGRAM, IN A SANDBOX (cutbox-rows.mjs): the forced cells as the released guide's own fill.sh prints them over the translation 45b73053af1b196b… (all of the seat's roots in one cut). By AI agents, Wed Nov 11 2026. No macro, syntax, notation, axiom, sorry.
-/
import Derived.Test.YteiejbkohnokaaaChecked
import GoSem.Claim
import GoSem.ClaimJoined
import GoSem.ClaimMapViews
import Derived.JoinedTies
import Derived.KernelRfl
namespace Go.Proofs.Yteiejbkohnokaaa
/- THE CELL 'sum', in the pinned program and in every row, IS THE sha256 OF THE DUMP (.gsa) THAT YteiejbkohnokaaaProg.lean LOADS. Nothing in Lean hashes anything: it is a label: what it is worth is what the hold of that sum in a sandbox is worth. -/
noncomputable def Try.pinned : Pinned := { name := "yteiejbkohnokaaa", sum := "45b73053af1b196b9d6e746e40ffd01770ab66ea00a88d8413a6f102c49d9a85", checked := Try.checked }
namespace Rows
def none {H : Type} : Left H := { results := [], args := [] }

/-- 'usherlaw06.FnvPieces': WHATEVER THE INPUT: true; the input reads as it did. -/
def fnvPiecesSpec : ChangeSpec := { name := "fnvPieces", fn := fun _ => fun
  | [d1, d2] => { results := [.lit (.bool true)], args := [d1, d2] }
  | _ => none }
def fnvPiecesRow : OpenClaim := { program := "yteiejbkohnokaaa", sum := "45b73053af1b196b9d6e746e40ffd01770ab66ea00a88d8413a6f102c49d9a85", func := "usher/usherlaw06.FnvPieces", spec := "fnvPieces", apart := false }
def FnvPiecesSaid : Prop := fnvPiecesRow.holds Try.pinned (OpenSpec.ofChange fnvPiecesSpec)

/-- ITS FALSE NEIGHBOUR: 'it returns false'. Refute it at one input. -/
def fnvPiecesWrong : ChangeSpec := { name := "fnvPieces", fn := fun _ => fun
  | [d1, d2] => { results := [.lit (.bool false)], args := [d1, d2] }
  | _ => none }
def FnvPiecesWrongFalsely : Prop := fnvPiecesRow.holds Try.pinned (OpenSpec.ofChange fnvPiecesWrong)

/-- 'usherlaw06.FnvLast': WHATEVER THE INPUT: true; the input reads as it did. -/
def fnvLastSpec : ChangeSpec := { name := "fnvLast", fn := fun _ => fun
  | [d1, d2, d3] => { results := [.lit (.bool true)], args := [d1, d2, d3] }
  | _ => none }
def fnvLastRow : OpenClaim := { program := "yteiejbkohnokaaa", sum := "45b73053af1b196b9d6e746e40ffd01770ab66ea00a88d8413a6f102c49d9a85", func := "usher/usherlaw06.FnvLast", spec := "fnvLast", apart := false }
def FnvLastSaid : Prop := fnvLastRow.holds Try.pinned (OpenSpec.ofChange fnvLastSpec)

/-- ITS FALSE NEIGHBOUR: 'it returns false'. Refute it at one input. -/
def fnvLastWrong : ChangeSpec := { name := "fnvLast", fn := fun _ => fun
  | [d1, d2, d3] => { results := [.lit (.bool false)], args := [d1, d2, d3] }
  | _ => none }
def FnvLastWrongFalsely : Prop := fnvLastRow.holds Try.pinned (OpenSpec.ofChange fnvLastWrong)

/-- 'usherlaw06.FnvApart': WHATEVER THE INPUT: true; the input reads as it did. -/
def fnvApartSpec : ChangeSpec := { name := "fnvApart", fn := fun _ => fun
  | [d1, d2, d3] => { results := [.lit (.bool true)], args := [d1, d2, d3] }
  | _ => none }
def fnvApartRow : OpenClaim := { program := "yteiejbkohnokaaa", sum := "45b73053af1b196b9d6e746e40ffd01770ab66ea00a88d8413a6f102c49d9a85", func := "usher/usherlaw06.FnvApart", spec := "fnvApart", apart := false }
def FnvApartSaid : Prop := fnvApartRow.holds Try.pinned (OpenSpec.ofChange fnvApartSpec)

/-- ITS FALSE NEIGHBOUR: 'it returns false'. Refute it at one input. -/
def fnvApartWrong : ChangeSpec := { name := "fnvApart", fn := fun _ => fun
  | [d1, d2, d3] => { results := [.lit (.bool false)], args := [d1, d2, d3] }
  | _ => none }
def FnvApartWrongFalsely : Prop := fnvApartRow.holds Try.pinned (OpenSpec.ofChange fnvApartWrong)

/-- 'usherlaw06.FnvSums': WHATEVER THE INPUT: true; the input reads as it did. -/
def fnvSumsSpec : ChangeSpec := { name := "fnvSums", fn := fun _ => fun
  | [d1, d2, d3] => { results := [.lit (.bool true)], args := [d1, d2, d3] }
  | _ => none }
def fnvSumsRow : OpenClaim := { program := "yteiejbkohnokaaa", sum := "45b73053af1b196b9d6e746e40ffd01770ab66ea00a88d8413a6f102c49d9a85", func := "usher/usherlaw06.FnvSums", spec := "fnvSums", apart := false }
def FnvSumsSaid : Prop := fnvSumsRow.holds Try.pinned (OpenSpec.ofChange fnvSumsSpec)

/-- ITS FALSE NEIGHBOUR: 'it returns false'. Refute it at one input. -/
def fnvSumsWrong : ChangeSpec := { name := "fnvSums", fn := fun _ => fun
  | [d1, d2, d3] => { results := [.lit (.bool false)], args := [d1, d2, d3] }
  | _ => none }
def FnvSumsWrongFalsely : Prop := fnvSumsRow.holds Try.pinned (OpenSpec.ofChange fnvSumsWrong)

/-- 'usherlaw06.FnvFlows': WHATEVER THE INPUT: true; the input reads as it did. -/
def fnvFlowsSpec : ChangeSpec := { name := "fnvFlows", fn := fun _ => fun
  | [d1, d2, d3, d4] => { results := [.lit (.bool true)], args := [d1, d2, d3, d4] }
  | _ => none }
def fnvFlowsRow : OpenClaim := { program := "yteiejbkohnokaaa", sum := "45b73053af1b196b9d6e746e40ffd01770ab66ea00a88d8413a6f102c49d9a85", func := "usher/usherlaw06.FnvFlows", spec := "fnvFlows", apart := false }
def FnvFlowsSaid : Prop := fnvFlowsRow.holds Try.pinned (OpenSpec.ofChange fnvFlowsSpec)

/-- ITS FALSE NEIGHBOUR: 'it returns false'. Refute it at one input. -/
def fnvFlowsWrong : ChangeSpec := { name := "fnvFlows", fn := fun _ => fun
  | [d1, d2, d3, d4] => { results := [.lit (.bool false)], args := [d1, d2, d3, d4] }
  | _ => none }
def FnvFlowsWrongFalsely : Prop := fnvFlowsRow.holds Try.pinned (OpenSpec.ofChange fnvFlowsWrong)

/-- 'usherlaw19.DemandAll': WHATEVER THE INPUT: true; the input reads as it did. -/
def demandAllSpec : ChangeSpec := { name := "demandAll", fn := fun _ => fun
  | [d1, d2] => { results := [.lit (.bool true)], args := [d1, d2] }
  | _ => none }
def demandAllRow : OpenClaim := { program := "yteiejbkohnokaaa", sum := "45b73053af1b196b9d6e746e40ffd01770ab66ea00a88d8413a6f102c49d9a85", func := "usher/usherlaw19.DemandAll", spec := "demandAll", apart := false }
def DemandAllSaid : Prop := demandAllRow.holds Try.pinned (OpenSpec.ofChange demandAllSpec)

/-- ITS FALSE NEIGHBOUR: 'it returns false'. Refute it at one input. -/
def demandAllWrong : ChangeSpec := { name := "demandAll", fn := fun _ => fun
  | [d1, d2] => { results := [.lit (.bool false)], args := [d1, d2] }
  | _ => none }
def DemandAllWrongFalsely : Prop := demandAllRow.holds Try.pinned (OpenSpec.ofChange demandAllWrong)

/-- 'usherlaw19.DemandKeeps': WHATEVER THE INPUT: true; the input reads as it did. -/
def demandKeepsSpec : ChangeSpec := { name := "demandKeeps", fn := fun _ => fun
  | [d1, d2, d3] => { results := [.lit (.bool true)], args := [d1, d2, d3] }
  | _ => none }
def demandKeepsRow : OpenClaim := { program := "yteiejbkohnokaaa", sum := "45b73053af1b196b9d6e746e40ffd01770ab66ea00a88d8413a6f102c49d9a85", func := "usher/usherlaw19.DemandKeeps", spec := "demandKeeps", apart := false }
def DemandKeepsSaid : Prop := demandKeepsRow.holds Try.pinned (OpenSpec.ofChange demandKeepsSpec)

/-- ITS FALSE NEIGHBOUR: 'it returns false'. Refute it at one input. -/
def demandKeepsWrong : ChangeSpec := { name := "demandKeeps", fn := fun _ => fun
  | [d1, d2, d3] => { results := [.lit (.bool false)], args := [d1, d2, d3] }
  | _ => none }
def DemandKeepsWrongFalsely : Prop := demandKeepsRow.holds Try.pinned (OpenSpec.ofChange demandKeepsWrong)

/-- 'usherlaw19.DemandFalls': WHATEVER THE INPUT: true; the input reads as it did. -/
def demandFallsSpec : ChangeSpec := { name := "demandFalls", fn := fun _ => fun
  | [d1, d2] => { results := [.lit (.bool true)], args := [d1, d2] }
  | _ => none }
def demandFallsRow : OpenClaim := { program := "yteiejbkohnokaaa", sum := "45b73053af1b196b9d6e746e40ffd01770ab66ea00a88d8413a6f102c49d9a85", func := "usher/usherlaw19.DemandFalls", spec := "demandFalls", apart := false }
def DemandFallsSaid : Prop := demandFallsRow.holds Try.pinned (OpenSpec.ofChange demandFallsSpec)

/-- ITS FALSE NEIGHBOUR: 'it returns false'. Refute it at one input. -/
def demandFallsWrong : ChangeSpec := { name := "demandFalls", fn := fun _ => fun
  | [d1, d2] => { results := [.lit (.bool false)], args := [d1, d2] }
  | _ => none }
def DemandFallsWrongFalsely : Prop := demandFallsRow.holds Try.pinned (OpenSpec.ofChange demandFallsWrong)

/-- 'usherlaw17.WidthAll': WHATEVER THE INPUT: true; the input reads as it did. -/
def widthAllSpec : ChangeSpec := { name := "widthAll", fn := fun _ => fun
  | [d1, d2, d3] => { results := [.lit (.bool true)], args := [d1, d2, d3] }
  | _ => none }
def widthAllRow : OpenClaim := { program := "yteiejbkohnokaaa", sum := "45b73053af1b196b9d6e746e40ffd01770ab66ea00a88d8413a6f102c49d9a85", func := "usher/usherlaw17.WidthAll", spec := "widthAll", apart := false }
def WidthAllSaid : Prop := widthAllRow.holds Try.pinned (OpenSpec.ofChange widthAllSpec)

/-- ITS FALSE NEIGHBOUR: 'it returns false'. Refute it at one input. -/
def widthAllWrong : ChangeSpec := { name := "widthAll", fn := fun _ => fun
  | [d1, d2, d3] => { results := [.lit (.bool false)], args := [d1, d2, d3] }
  | _ => none }
def WidthAllWrongFalsely : Prop := widthAllRow.holds Try.pinned (OpenSpec.ofChange widthAllWrong)

/-- 'usherlaw17.WidthMore': WHATEVER THE INPUT: true; the input reads as it did. -/
def widthMoreSpec : ChangeSpec := { name := "widthMore", fn := fun _ => fun
  | [d1, d2, d3, d4, d5] => { results := [.lit (.bool true)], args := [d1, d2, d3, d4, d5] }
  | _ => none }
def widthMoreRow : OpenClaim := { program := "yteiejbkohnokaaa", sum := "45b73053af1b196b9d6e746e40ffd01770ab66ea00a88d8413a6f102c49d9a85", func := "usher/usherlaw17.WidthMore", spec := "widthMore", apart := false }
def WidthMoreSaid : Prop := widthMoreRow.holds Try.pinned (OpenSpec.ofChange widthMoreSpec)

/-- ITS FALSE NEIGHBOUR: 'it returns false'. Refute it at one input. -/
def widthMoreWrong : ChangeSpec := { name := "widthMore", fn := fun _ => fun
  | [d1, d2, d3, d4, d5] => { results := [.lit (.bool false)], args := [d1, d2, d3, d4, d5] }
  | _ => none }
def WidthMoreWrongFalsely : Prop := widthMoreRow.holds Try.pinned (OpenSpec.ofChange widthMoreWrong)

/-- 'usherlaw17.WidthKinds': WHATEVER THE INPUT: true; the input reads as it did. -/
def widthKindsSpec : ChangeSpec := { name := "widthKinds", fn := fun _ => fun
  | [d1, d2, d3] => { results := [.lit (.bool true)], args := [d1, d2, d3] }
  | _ => none }
def widthKindsRow : OpenClaim := { program := "yteiejbkohnokaaa", sum := "45b73053af1b196b9d6e746e40ffd01770ab66ea00a88d8413a6f102c49d9a85", func := "usher/usherlaw17.WidthKinds", spec := "widthKinds", apart := false }
def WidthKindsSaid : Prop := widthKindsRow.holds Try.pinned (OpenSpec.ofChange widthKindsSpec)

/-- ITS FALSE NEIGHBOUR: 'it returns false'. Refute it at one input. -/
def widthKindsWrong : ChangeSpec := { name := "widthKinds", fn := fun _ => fun
  | [d1, d2, d3] => { results := [.lit (.bool false)], args := [d1, d2, d3] }
  | _ => none }
def WidthKindsWrongFalsely : Prop := widthKindsRow.holds Try.pinned (OpenSpec.ofChange widthKindsWrong)

/- THE SECOND FORM. 'bulk': how many values and letters a reading holds, each counted each time it is reached (what is shared counts as often as it is met; a slice's spare places count too). A statement '..UptoSaid' is the law's where the arguments, and the package variables that the reading takes, are together of bulk at most 1048576: NARROWER than '..Said'. Prove '..Said' where nothing that the law and all that it calls make is longer than what came in: it says more and counts as full. Else prove '..UptoSaid'. A law counts once. -/
mutual
def uptoBulk {H : Type} : DataW H → Nat
  | .lit (.string bytes) => bytes.length + 1
  | .lit _ => 1
  | .nil => 1
  | .ptr d => uptoBulk d + 1
  | .slice elems spare => uptoBulkAll elems + uptoBulkAll spare + 1
  | .agg parts => uptoBulkAll parts + 1
  | .iface _ d => uptoBulk d + 1
  | .map entries => uptoBulkEntries entries + 1
  | .held _ => 1
def uptoBulkAll {H : Type} : List (DataW H) → Nat
  | [] => 0
  | d :: r => uptoBulk d + uptoBulkAll r
def uptoBulkEntries {H : Type} : List (Lit × DataW H) → Nat
  | [] => 0
  | x :: r => uptoBulkEntry x + uptoBulkEntries r
def uptoBulkEntry {H : Type} : Lit × DataW H → Nat
  | (.string bytes, d) => bytes.length + uptoBulk d + 1
  | (_, d) => uptoBulk d + 1
 end
def uptoSmall : (H : Type) → List (DataW H) → Bool := fun _ ds => decide (uptoBulkAll ds ≤ 1048576)
def OpenSpec.upto (s : _root_.Go.ChangeSpec) : _root_.Go.OpenSpec := { _root_.Go.OpenSpec.ofChange s with cond := some uptoSmall }

/-- 'usherlaw06.FnvPieces', WHERE WHAT IT READS IS OF BULK AT MOST 1048576: true; the input reads as it did. -/
def fnvPiecesUptoRow : OpenClaim := { program := "yteiejbkohnokaaa", sum := "45b73053af1b196b9d6e746e40ffd01770ab66ea00a88d8413a6f102c49d9a85", func := "usher/usherlaw06.FnvPieces", spec := "fnvPieces", apart := false, narrowed := true }
def FnvPiecesUptoSaid : Prop := fnvPiecesUptoRow.holds Try.pinned (OpenSpec.upto fnvPiecesSpec)

/-- 'usherlaw06.FnvLast', WHERE WHAT IT READS IS OF BULK AT MOST 1048576: true; the input reads as it did. -/
def fnvLastUptoRow : OpenClaim := { program := "yteiejbkohnokaaa", sum := "45b73053af1b196b9d6e746e40ffd01770ab66ea00a88d8413a6f102c49d9a85", func := "usher/usherlaw06.FnvLast", spec := "fnvLast", apart := false, narrowed := true }
def FnvLastUptoSaid : Prop := fnvLastUptoRow.holds Try.pinned (OpenSpec.upto fnvLastSpec)

/-- 'usherlaw06.FnvApart', WHERE WHAT IT READS IS OF BULK AT MOST 1048576: true; the input reads as it did. -/
def fnvApartUptoRow : OpenClaim := { program := "yteiejbkohnokaaa", sum := "45b73053af1b196b9d6e746e40ffd01770ab66ea00a88d8413a6f102c49d9a85", func := "usher/usherlaw06.FnvApart", spec := "fnvApart", apart := false, narrowed := true }
def FnvApartUptoSaid : Prop := fnvApartUptoRow.holds Try.pinned (OpenSpec.upto fnvApartSpec)

/-- 'usherlaw06.FnvSums', WHERE WHAT IT READS IS OF BULK AT MOST 1048576: true; the input reads as it did. -/
def fnvSumsUptoRow : OpenClaim := { program := "yteiejbkohnokaaa", sum := "45b73053af1b196b9d6e746e40ffd01770ab66ea00a88d8413a6f102c49d9a85", func := "usher/usherlaw06.FnvSums", spec := "fnvSums", apart := false, narrowed := true }
def FnvSumsUptoSaid : Prop := fnvSumsUptoRow.holds Try.pinned (OpenSpec.upto fnvSumsSpec)

/-- 'usherlaw06.FnvFlows', WHERE WHAT IT READS IS OF BULK AT MOST 1048576: true; the input reads as it did. -/
def fnvFlowsUptoRow : OpenClaim := { program := "yteiejbkohnokaaa", sum := "45b73053af1b196b9d6e746e40ffd01770ab66ea00a88d8413a6f102c49d9a85", func := "usher/usherlaw06.FnvFlows", spec := "fnvFlows", apart := false, narrowed := true }
def FnvFlowsUptoSaid : Prop := fnvFlowsUptoRow.holds Try.pinned (OpenSpec.upto fnvFlowsSpec)

/-- 'usherlaw19.DemandAll', WHERE WHAT IT READS IS OF BULK AT MOST 1048576: true; the input reads as it did. -/
def demandAllUptoRow : OpenClaim := { program := "yteiejbkohnokaaa", sum := "45b73053af1b196b9d6e746e40ffd01770ab66ea00a88d8413a6f102c49d9a85", func := "usher/usherlaw19.DemandAll", spec := "demandAll", apart := false, narrowed := true }
def DemandAllUptoSaid : Prop := demandAllUptoRow.holds Try.pinned (OpenSpec.upto demandAllSpec)

/-- 'usherlaw19.DemandKeeps', WHERE WHAT IT READS IS OF BULK AT MOST 1048576: true; the input reads as it did. -/
def demandKeepsUptoRow : OpenClaim := { program := "yteiejbkohnokaaa", sum := "45b73053af1b196b9d6e746e40ffd01770ab66ea00a88d8413a6f102c49d9a85", func := "usher/usherlaw19.DemandKeeps", spec := "demandKeeps", apart := false, narrowed := true }
def DemandKeepsUptoSaid : Prop := demandKeepsUptoRow.holds Try.pinned (OpenSpec.upto demandKeepsSpec)

/-- 'usherlaw19.DemandFalls', WHERE WHAT IT READS IS OF BULK AT MOST 1048576: true; the input reads as it did. -/
def demandFallsUptoRow : OpenClaim := { program := "yteiejbkohnokaaa", sum := "45b73053af1b196b9d6e746e40ffd01770ab66ea00a88d8413a6f102c49d9a85", func := "usher/usherlaw19.DemandFalls", spec := "demandFalls", apart := false, narrowed := true }
def DemandFallsUptoSaid : Prop := demandFallsUptoRow.holds Try.pinned (OpenSpec.upto demandFallsSpec)

/-- 'usherlaw17.WidthAll', WHERE WHAT IT READS IS OF BULK AT MOST 1048576: true; the input reads as it did. -/
def widthAllUptoRow : OpenClaim := { program := "yteiejbkohnokaaa", sum := "45b73053af1b196b9d6e746e40ffd01770ab66ea00a88d8413a6f102c49d9a85", func := "usher/usherlaw17.WidthAll", spec := "widthAll", apart := false, narrowed := true }
def WidthAllUptoSaid : Prop := widthAllUptoRow.holds Try.pinned (OpenSpec.upto widthAllSpec)

/-- 'usherlaw17.WidthMore', WHERE WHAT IT READS IS OF BULK AT MOST 1048576: true; the input reads as it did. -/
def widthMoreUptoRow : OpenClaim := { program := "yteiejbkohnokaaa", sum := "45b73053af1b196b9d6e746e40ffd01770ab66ea00a88d8413a6f102c49d9a85", func := "usher/usherlaw17.WidthMore", spec := "widthMore", apart := false, narrowed := true }
def WidthMoreUptoSaid : Prop := widthMoreUptoRow.holds Try.pinned (OpenSpec.upto widthMoreSpec)

/-- 'usherlaw17.WidthKinds', WHERE WHAT IT READS IS OF BULK AT MOST 1048576: true; the input reads as it did. -/
def widthKindsUptoRow : OpenClaim := { program := "yteiejbkohnokaaa", sum := "45b73053af1b196b9d6e746e40ffd01770ab66ea00a88d8413a6f102c49d9a85", func := "usher/usherlaw17.WidthKinds", spec := "widthKinds", apart := false, narrowed := true }
def WidthKindsUptoSaid : Prop := widthKindsUptoRow.holds Try.pinned (OpenSpec.upto widthKindsSpec)

end Rows
end Go.Proofs.Yteiejbkohnokaaa
