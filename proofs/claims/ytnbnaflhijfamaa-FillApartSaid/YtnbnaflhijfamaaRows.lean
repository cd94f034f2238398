/-
  No cell of these rows narrows 'for every input' (looked for: loops, veiled, ifaces, maps, wideKeys, modest, calm, conditions, laid).
  DERIVED. THE GIVEN ROWS OF THIS SEAT. 8 by the template 'for every input the law returns true; each argument reads behind the call as it read before'; 0 by the template 'total and deterministic' (their statements: YtnbnaflhijfamaaTotals.lean).
  GIVEN WITH THE SEED: the statements are not yours to turn. If you find one false, say at which input.
  Laid BY PROGRAM, IN A SANDBOX (cutbox-rows.mjs): the forced cells as the released guide's own fill.sh prints them over the translation 0150cce2ea6ea008… (all of the seat's roots in one cut). By AI agents, Wed Nov 11 2026. No macro, syntax, notation, axiom, sorry.
-/
import Derived.Test.YtnbnaflhijfamaaChecked
import GoSem.Claim
import GoSem.ClaimJoined
import GoSem.ClaimMapViews
import Derived.JoinedTies
import Derived.KernelRfl
namespace Go.Proofs.Ytnbnaflhijfamaa
/- THE CELL 'sum', in the pinned program and in every row, IS THE sha256 OF THE DUMP (.gsa) THAT YtnbnaflhijfamaaProg.lean LOADS. Nothing in Lean hashes anything: it is a label: what it is worth is what the hold of that sum in a sandbox is worth. -/
noncomputable def Try.pinned : Pinned := { name := "ytnbnaflhijfamaa", sum := "0150cce2ea6ea008c90f0c4965df1b4b1dbbddf76cc8908e7b1b865abb8d52b0", checked := Try.checked }
namespace Rows
def none {H : Type} : Left H := { results := [], args := [] }

/-- 'usherlaw12.FillAll': WHATEVER THE INPUT: true; the input reads as it did. -/
def fillAllSpec : ChangeSpec := { name := "fillAll", fn := fun _ => fun
  | [d] => { results := [.lit (.bool true)], args := [d] }
  | _ => none }
def fillAllRow : OpenClaim := { program := "ytnbnaflhijfamaa", sum := "0150cce2ea6ea008c90f0c4965df1b4b1dbbddf76cc8908e7b1b865abb8d52b0", func := "usher/usherlaw12.FillAll", spec := "fillAll", apart := false }
def FillAllSaid : Prop := fillAllRow.holds Try.pinned (OpenSpec.ofChange fillAllSpec)

/-- ITS FALSE NEIGHBOUR: 'it returns false'. Refute it at one input. -/
def fillAllWrong : ChangeSpec := { name := "fillAll", fn := fun _ => fun
  | [d] => { results := [.lit (.bool false)], args := [d] }
  | _ => none }
def FillAllWrongFalsely : Prop := fillAllRow.holds Try.pinned (OpenSpec.ofChange fillAllWrong)

/-- 'usherlaw12.FillKeeps': WHATEVER THE INPUT: true; the input reads as it did. -/
def fillKeepsSpec : ChangeSpec := { name := "fillKeeps", fn := fun _ => fun
  | [d] => { results := [.lit (.bool true)], args := [d] }
  | _ => none }
def fillKeepsRow : OpenClaim := { program := "ytnbnaflhijfamaa", sum := "0150cce2ea6ea008c90f0c4965df1b4b1dbbddf76cc8908e7b1b865abb8d52b0", func := "usher/usherlaw12.FillKeeps", spec := "fillKeeps", apart := false }
def FillKeepsSaid : Prop := fillKeepsRow.holds Try.pinned (OpenSpec.ofChange fillKeepsSpec)

/-- ITS FALSE NEIGHBOUR: 'it returns false'. Refute it at one input. -/
def fillKeepsWrong : ChangeSpec := { name := "fillKeeps", fn := fun _ => fun
  | [d] => { results := [.lit (.bool false)], args := [d] }
  | _ => none }
def FillKeepsWrongFalsely : Prop := fillKeepsRow.holds Try.pinned (OpenSpec.ofChange fillKeepsWrong)

/-- 'usherlaw12.FillApart': WHATEVER THE INPUT: true; the input reads as it did. -/
def fillApartSpec : ChangeSpec := { name := "fillApart", fn := fun _ => fun
  | [d] => { results := [.lit (.bool true)], args := [d] }
  | _ => none }
def fillApartRow : OpenClaim := { program := "ytnbnaflhijfamaa", sum := "0150cce2ea6ea008c90f0c4965df1b4b1dbbddf76cc8908e7b1b865abb8d52b0", func := "usher/usherlaw12.FillApart", spec := "fillApart", apart := false }
def FillApartSaid : Prop := fillApartRow.holds Try.pinned (OpenSpec.ofChange fillApartSpec)

/-- ITS FALSE NEIGHBOUR: 'it returns false'. Refute it at one input. -/
def fillApartWrong : ChangeSpec := { name := "fillApart", fn := fun _ => fun
  | [d] => { results := [.lit (.bool false)], args := [d] }
  | _ => none }
def FillApartWrongFalsely : Prop := fillApartRow.holds Try.pinned (OpenSpec.ofChange fillApartWrong)

/-- 'usherlaw07.DealAll': WHATEVER THE INPUT: true; the input reads as it did. -/
def dealAllSpec : ChangeSpec := { name := "dealAll", fn := fun _ => fun
  | [d1, d2, d3] => { results := [.lit (.bool true)], args := [d1, d2, d3] }
  | _ => none }
def dealAllRow : OpenClaim := { program := "ytnbnaflhijfamaa", sum := "0150cce2ea6ea008c90f0c4965df1b4b1dbbddf76cc8908e7b1b865abb8d52b0", func := "usher/usherlaw07.DealAll", spec := "dealAll", apart := false }
def DealAllSaid : Prop := dealAllRow.holds Try.pinned (OpenSpec.ofChange dealAllSpec)

/-- ITS FALSE NEIGHBOUR: 'it returns false'. Refute it at one input. -/
def dealAllWrong : ChangeSpec := { name := "dealAll", fn := fun _ => fun
  | [d1, d2, d3] => { results := [.lit (.bool false)], args := [d1, d2, d3] }
  | _ => none }
def DealAllWrongFalsely : Prop := dealAllRow.holds Try.pinned (OpenSpec.ofChange dealAllWrong)

/-- 'usherlaw07.DealApart': WHATEVER THE INPUT: true; the input reads as it did. -/
def dealApartSpec : ChangeSpec := { name := "dealApart", fn := fun _ => fun
  | [d1, d2, d3] => { results := [.lit (.bool true)], args := [d1, d2, d3] }
  | _ => none }
def dealApartRow : OpenClaim := { program := "ytnbnaflhijfamaa", sum := "0150cce2ea6ea008c90f0c4965df1b4b1dbbddf76cc8908e7b1b865abb8d52b0", func := "usher/usherlaw07.DealApart", spec := "dealApart", apart := false }
def DealApartSaid : Prop := dealApartRow.holds Try.pinned (OpenSpec.ofChange dealApartSpec)

/-- ITS FALSE NEIGHBOUR: 'it returns false'. Refute it at one input. -/
def dealApartWrong : ChangeSpec := { name := "dealApart", fn := fun _ => fun
  | [d1, d2, d3] => { results := [.lit (.bool false)], args := [d1, d2, d3] }
  | _ => none }
def DealApartWrongFalsely : Prop := dealApartRow.holds Try.pinned (OpenSpec.ofChange dealApartWrong)

/-- 'usherlaw07.DealEach': WHATEVER THE INPUT: true; the input reads as it did. -/
def dealEachSpec : ChangeSpec := { name := "dealEach", fn := fun _ => fun
  | [d1, d2] => { results := [.lit (.bool true)], args := [d1, d2] }
  | _ => none }
def dealEachRow : OpenClaim := { program := "ytnbnaflhijfamaa", sum := "0150cce2ea6ea008c90f0c4965df1b4b1dbbddf76cc8908e7b1b865abb8d52b0", func := "usher/usherlaw07.DealEach", spec := "dealEach", apart := false }
def DealEachSaid : Prop := dealEachRow.holds Try.pinned (OpenSpec.ofChange dealEachSpec)

/-- ITS FALSE NEIGHBOUR: 'it returns false'. Refute it at one input. -/
def dealEachWrong : ChangeSpec := { name := "dealEach", fn := fun _ => fun
  | [d1, d2] => { results := [.lit (.bool false)], args := [d1, d2] }
  | _ => none }
def DealEachWrongFalsely : Prop := dealEachRow.holds Try.pinned (OpenSpec.ofChange dealEachWrong)

/-- 'usherlaw07.DealNames': WHATEVER THE INPUT: true; the input reads as it did. -/
def dealNamesSpec : ChangeSpec := { name := "dealNames", fn := fun _ => fun
  | [d1, d2] => { results := [.lit (.bool true)], args := [d1, d2] }
  | _ => none }
def dealNamesRow : OpenClaim := { program := "ytnbnaflhijfamaa", sum := "0150cce2ea6ea008c90f0c4965df1b4b1dbbddf76cc8908e7b1b865abb8d52b0", func := "usher/usherlaw07.DealNames", spec := "dealNames", apart := false }
def DealNamesSaid : Prop := dealNamesRow.holds Try.pinned (OpenSpec.ofChange dealNamesSpec)

/-- ITS FALSE NEIGHBOUR: 'it returns false'. Refute it at one input. -/
def dealNamesWrong : ChangeSpec := { name := "dealNames", fn := fun _ => fun
  | [d1, d2] => { results := [.lit (.bool false)], args := [d1, d2] }
  | _ => none }
def DealNamesWrongFalsely : Prop := dealNamesRow.holds Try.pinned (OpenSpec.ofChange dealNamesWrong)

/-- 'usherlaw07.DealWhole': WHATEVER THE INPUT: true; the input reads as it did. -/
def dealWholeSpec : ChangeSpec := { name := "dealWhole", fn := fun _ => fun
  | [d1, d2, d3] => { results := [.lit (.bool true)], args := [d1, d2, d3] }
  | _ => none }
def dealWholeRow : OpenClaim := { program := "ytnbnaflhijfamaa", sum := "0150cce2ea6ea008c90f0c4965df1b4b1dbbddf76cc8908e7b1b865abb8d52b0", func := "usher/usherlaw07.DealWhole", spec := "dealWhole", apart := false }
def DealWholeSaid : Prop := dealWholeRow.holds Try.pinned (OpenSpec.ofChange dealWholeSpec)

/-- ITS FALSE NEIGHBOUR: 'it returns false'. Refute it at one input. -/
def dealWholeWrong : ChangeSpec := { name := "dealWhole", fn := fun _ => fun
  | [d1, d2, d3] => { results := [.lit (.bool false)], args := [d1, d2, d3] }
  | _ => none }
def DealWholeWrongFalsely : Prop := dealWholeRow.holds Try.pinned (OpenSpec.ofChange dealWholeWrong)

/- THE SECOND FORM. 'bulk': how many values and letters a reading holds, each counted each time it is reached (what is shared counts as often as it is met; a slice's spare places count too). A statement '..UptoSaid' is the law's where the arguments, and the package variables that the reading takes, are together of bulk at most 1048576: NARROWER than '..Said'. Prove '..Said' where nothing that the law and all that it calls make is longer than what came in: it says more and counts as full. Else prove '..UptoSaid'. A law counts once. -/
mutual
def uptoBulk {H : Type} : DataW H → Nat
  | .lit (.string bytes) => bytes.length + 1
  | .lit _ => 1
  | .nil => 1
  | .ptr d => uptoBulk d + 1
  | .slice elems spare => uptoBulkAll elems + uptoBulkAll spare + 1
  | .agg parts => uptoBulkAll parts + 1
  | .iface _ d => uptoBulk d + 1
  | .map entries => uptoBulkEntries entries + 1
  | .held _ => 1
def uptoBulkAll {H : Type} : List (DataW H) → Nat
  | [] => 0
  | d :: r => uptoBulk d + uptoBulkAll r
def uptoBulkEntries {H : Type} : List (Lit × DataW H) → Nat
  | [] => 0
  | x :: r => uptoBulkEntry x + uptoBulkEntries r
def uptoBulkEntry {H : Type} : Lit × DataW H → Nat
  | (.string bytes, d) => bytes.length + uptoBulk d + 1
  | (_, d) => uptoBulk d + 1
 end
def uptoSmall : (H : Type) → List (DataW H) → Bool := fun _ ds => decide (uptoBulkAll ds ≤ 1048576)
def OpenSpec.upto (s : _root_.Go.ChangeSpec) : _root_.Go.OpenSpec := { _root_.Go.OpenSpec.ofChange s with cond := some uptoSmall }

/-- 'usherlaw12.FillAll', WHERE WHAT IT READS IS OF BULK AT MOST 1048576: true; the input reads as it did. -/
def fillAllUptoRow : OpenClaim := { program := "ytnbnaflhijfamaa", sum := "0150cce2ea6ea008c90f0c4965df1b4b1dbbddf76cc8908e7b1b865abb8d52b0", func := "usher/usherlaw12.FillAll", spec := "fillAll", apart := false, narrowed := true }
def FillAllUptoSaid : Prop := fillAllUptoRow.holds Try.pinned (OpenSpec.upto fillAllSpec)

/-- 'usherlaw12.FillKeeps', WHERE WHAT IT READS IS OF BULK AT MOST 1048576: true; the input reads as it did. -/
def fillKeepsUptoRow : OpenClaim := { program := "ytnbnaflhijfamaa", sum := "0150cce2ea6ea008c90f0c4965df1b4b1dbbddf76cc8908e7b1b865abb8d52b0", func := "usher/usherlaw12.FillKeeps", spec := "fillKeeps", apart := false, narrowed := true }
def FillKeepsUptoSaid : Prop := fillKeepsUptoRow.holds Try.pinned (OpenSpec.upto fillKeepsSpec)

/-- 'usherlaw12.FillApart', WHERE WHAT IT READS IS OF BULK AT MOST 1048576: true; the input reads as it did. -/
def fillApartUptoRow : OpenClaim := { program := "ytnbnaflhijfamaa", sum := "0150cce2ea6ea008c90f0c4965df1b4b1dbbddf76cc8908e7b1b865abb8d52b0", func := "usher/usherlaw12.FillApart", spec := "fillApart", apart := false, narrowed := true }
def FillApartUptoSaid : Prop := fillApartUptoRow.holds Try.pinned (OpenSpec.upto fillApartSpec)

/-- 'usherlaw07.DealAll', WHERE WHAT IT READS IS OF BULK AT MOST 1048576: true; the input reads as it did. -/
def dealAllUptoRow : OpenClaim := { program := "ytnbnaflhijfamaa", sum := "0150cce2ea6ea008c90f0c4965df1b4b1dbbddf76cc8908e7b1b865abb8d52b0", func := "usher/usherlaw07.DealAll", spec := "dealAll", apart := false, narrowed := true }
def DealAllUptoSaid : Prop := dealAllUptoRow.holds Try.pinned (OpenSpec.upto dealAllSpec)

/-- 'usherlaw07.DealApart', WHERE WHAT IT READS IS OF BULK AT MOST 1048576: true; the input reads as it did. -/
def dealApartUptoRow : OpenClaim := { program := "ytnbnaflhijfamaa", sum := "0150cce2ea6ea008c90f0c4965df1b4b1dbbddf76cc8908e7b1b865abb8d52b0", func := "usher/usherlaw07.DealApart", spec := "dealApart", apart := false, narrowed := true }
def DealApartUptoSaid : Prop := dealApartUptoRow.holds Try.pinned (OpenSpec.upto dealApartSpec)

/-- 'usherlaw07.DealEach', WHERE WHAT IT READS IS OF BULK AT MOST 1048576: true; the input reads as it did. -/
def dealEachUptoRow : OpenClaim := { program := "ytnbnaflhijfamaa", sum := "0150cce2ea6ea008c90f0c4965df1b4b1dbbddf76cc8908e7b1b865abb8d52b0", func := "usher/usherlaw07.DealEach", spec := "dealEach", apart := false, narrowed := true }
def DealEachUptoSaid : Prop := dealEachUptoRow.holds Try.pinned (OpenSpec.upto dealEachSpec)

/-- 'usherlaw07.DealNames', WHERE WHAT IT READS IS OF BULK AT MOST 1048576: true; the input reads as it did. -/
def dealNamesUptoRow : OpenClaim := { program := "ytnbnaflhijfamaa", sum := "0150cce2ea6ea008c90f0c4965df1b4b1dbbddf76cc8908e7b1b865abb8d52b0", func := "usher/usherlaw07.DealNames", spec := "dealNames", apart := false, narrowed := true }
def DealNamesUptoSaid : Prop := dealNamesUptoRow.holds Try.pinned (OpenSpec.upto dealNamesSpec)

/-- 'usherlaw07.DealWhole', WHERE WHAT IT READS IS OF BULK AT MOST 1048576: true; the input reads as it did. -/
def dealWholeUptoRow : OpenClaim := { program := "ytnbnaflhijfamaa", sum := "0150cce2ea6ea008c90f0c4965df1b4b1dbbddf76cc8908e7b1b865abb8d52b0", func := "usher/usherlaw07.DealWhole", spec := "dealWhole", apart := false, narrowed := true }
def DealWholeUptoSaid : Prop := dealWholeUptoRow.holds Try.pinned (OpenSpec.upto dealWholeSpec)

end Rows
end Go.Proofs.Ytnbnaflhijfamaa
