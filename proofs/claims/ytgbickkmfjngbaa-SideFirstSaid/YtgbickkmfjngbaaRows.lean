/-
  No cell of these rows narrows 'for every input' (looked for: loops, veiled, ifaces, maps, wideKeys, modest, calm, conditions, laid).
  DERIVED. THE GIVEN ROWS OF THIS SEAT. 7 by the template 'for every input the law returns true; each argument reads behind the call as it read before'; 0 by the template 'total and deterministic' (their statements: YtgbickkmfjngbaaTotals.lean).
  GIVEN WITH THE SEED: the statements are not yours to turn. If you find one false, say at which input.
  Laid BY PROGRAM, IN A SANDBOX (cutbox-rows.mjs): the forced cells as the released guide's own fill.sh prints them over the translation 56fafabcf1b29190… (all of the seat's roots in one cut). By AI agents, Wed Nov 11 2026. No macro, syntax, notation, axiom, sorry.
-/
import Derived.Test.YtgbickkmfjngbaaChecked
import GoSem.Claim
import GoSem.ClaimJoined
import GoSem.ClaimMapViews
import Derived.JoinedTies
import Derived.KernelRfl
namespace Go.Proofs.Ytgbickkmfjngbaa
/- THE CELL 'sum', in the pinned program and in every row, IS THE sha256 OF THE DUMP (.gsa) THAT YtgbickkmfjngbaaProg.lean LOADS. Nothing in Lean hashes anything: it is a label: what it is worth is what the hold of that sum in a sandbox is worth. -/
noncomputable def Try.pinned : Pinned := { name := "ytgbickkmfjngbaa", sum := "56fafabcf1b291900d58c0ae58701d27e8cc7b8e97f7f041f19e7b66d0b0a2b2", checked := Try.checked }
namespace Rows
def none {H : Type} : Left H := { results := [], args := [] }

/-- 'tammylaw08.SideTells': WHATEVER THE INPUT: true; the input reads as it did. -/
def sideTellsSpec : ChangeSpec := { name := "sideTells", fn := fun _ => fun
  | [d1, d2, d3] => { results := [.lit (.bool true)], args := [d1, d2, d3] }
  | _ => none }
def sideTellsRow : OpenClaim := { program := "ytgbickkmfjngbaa", sum := "56fafabcf1b291900d58c0ae58701d27e8cc7b8e97f7f041f19e7b66d0b0a2b2", func := "tammy/tammylaw08.SideTells", spec := "sideTells", unfollowed := true, recurses := true, apart := false }
def SideTellsSaid : Prop := sideTellsRow.holds Try.pinned (OpenSpec.ofChange sideTellsSpec)

/-- ITS FALSE NEIGHBOUR: 'it returns false'. Refute it at one input. -/
def sideTellsWrong : ChangeSpec := { name := "sideTells", fn := fun _ => fun
  | [d1, d2, d3] => { results := [.lit (.bool false)], args := [d1, d2, d3] }
  | _ => none }
def SideTellsWrongFalsely : Prop := sideTellsRow.holds Try.pinned (OpenSpec.ofChange sideTellsWrong)

/-- 'tammylaw08.SideBoth': WHATEVER THE INPUT: true; the input reads as it did. -/
def sideBothSpec : ChangeSpec := { name := "sideBoth", fn := fun _ => fun
  | [d1, d2] => { results := [.lit (.bool true)], args := [d1, d2] }
  | _ => none }
def sideBothRow : OpenClaim := { program := "ytgbickkmfjngbaa", sum := "56fafabcf1b291900d58c0ae58701d27e8cc7b8e97f7f041f19e7b66d0b0a2b2", func := "tammy/tammylaw08.SideBoth", spec := "sideBoth", unfollowed := true, recurses := true, apart := false }
def SideBothSaid : Prop := sideBothRow.holds Try.pinned (OpenSpec.ofChange sideBothSpec)

/-- ITS FALSE NEIGHBOUR: 'it returns false'. Refute it at one input. -/
def sideBothWrong : ChangeSpec := { name := "sideBoth", fn := fun _ => fun
  | [d1, d2] => { results := [.lit (.bool false)], args := [d1, d2] }
  | _ => none }
def SideBothWrongFalsely : Prop := sideBothRow.holds Try.pinned (OpenSpec.ofChange sideBothWrong)

/-- 'tammylaw08.SideParts': WHATEVER THE INPUT: true; the input reads as it did. -/
def sidePartsSpec : ChangeSpec := { name := "sideParts", fn := fun _ => fun
  | [d] => { results := [.lit (.bool true)], args := [d] }
  | _ => none }
def sidePartsRow : OpenClaim := { program := "ytgbickkmfjngbaa", sum := "56fafabcf1b291900d58c0ae58701d27e8cc7b8e97f7f041f19e7b66d0b0a2b2", func := "tammy/tammylaw08.SideParts", spec := "sideParts", unfollowed := true, recurses := true, apart := false }
def SidePartsSaid : Prop := sidePartsRow.holds Try.pinned (OpenSpec.ofChange sidePartsSpec)

/-- ITS FALSE NEIGHBOUR: 'it returns false'. Refute it at one input. -/
def sidePartsWrong : ChangeSpec := { name := "sideParts", fn := fun _ => fun
  | [d] => { results := [.lit (.bool false)], args := [d] }
  | _ => none }
def SidePartsWrongFalsely : Prop := sidePartsRow.holds Try.pinned (OpenSpec.ofChange sidePartsWrong)

/-- 'tammylaw08.SideVars': WHATEVER THE INPUT: true; the input reads as it did. -/
def sideVarsSpec : ChangeSpec := { name := "sideVars", fn := fun _ => fun
  | [d1, d2] => { results := [.lit (.bool true)], args := [d1, d2] }
  | _ => none }
def sideVarsRow : OpenClaim := { program := "ytgbickkmfjngbaa", sum := "56fafabcf1b291900d58c0ae58701d27e8cc7b8e97f7f041f19e7b66d0b0a2b2", func := "tammy/tammylaw08.SideVars", spec := "sideVars", unfollowed := true, recurses := true, apart := false }
def SideVarsSaid : Prop := sideVarsRow.holds Try.pinned (OpenSpec.ofChange sideVarsSpec)

/-- ITS FALSE NEIGHBOUR: 'it returns false'. Refute it at one input. -/
def sideVarsWrong : ChangeSpec := { name := "sideVars", fn := fun _ => fun
  | [d1, d2] => { results := [.lit (.bool false)], args := [d1, d2] }
  | _ => none }
def SideVarsWrongFalsely : Prop := sideVarsRow.holds Try.pinned (OpenSpec.ofChange sideVarsWrong)

/-- 'tammylaw08.SideTurns': WHATEVER THE INPUT: true; the input reads as it did. -/
def sideTurnsSpec : ChangeSpec := { name := "sideTurns", fn := fun _ => fun
  | [d1, d2] => { results := [.lit (.bool true)], args := [d1, d2] }
  | _ => none }
def sideTurnsRow : OpenClaim := { program := "ytgbickkmfjngbaa", sum := "56fafabcf1b291900d58c0ae58701d27e8cc7b8e97f7f041f19e7b66d0b0a2b2", func := "tammy/tammylaw08.SideTurns", spec := "sideTurns", unfollowed := true, recurses := true, apart := false }
def SideTurnsSaid : Prop := sideTurnsRow.holds Try.pinned (OpenSpec.ofChange sideTurnsSpec)

/-- ITS FALSE NEIGHBOUR: 'it returns false'. Refute it at one input. -/
def sideTurnsWrong : ChangeSpec := { name := "sideTurns", fn := fun _ => fun
  | [d1, d2] => { results := [.lit (.bool false)], args := [d1, d2] }
  | _ => none }
def SideTurnsWrongFalsely : Prop := sideTurnsRow.holds Try.pinned (OpenSpec.ofChange sideTurnsWrong)

/-- 'tammylaw08.SideFirst': WHATEVER THE INPUT: true; the input reads as it did. -/
def sideFirstSpec : ChangeSpec := { name := "sideFirst", fn := fun _ => fun
  | [d] => { results := [.lit (.bool true)], args := [d] }
  | _ => none }
def sideFirstRow : OpenClaim := { program := "ytgbickkmfjngbaa", sum := "56fafabcf1b291900d58c0ae58701d27e8cc7b8e97f7f041f19e7b66d0b0a2b2", func := "tammy/tammylaw08.SideFirst", spec := "sideFirst", unfollowed := true, recurses := true, apart := false }
def SideFirstSaid : Prop := sideFirstRow.holds Try.pinned (OpenSpec.ofChange sideFirstSpec)

/-- ITS FALSE NEIGHBOUR: 'it returns false'. Refute it at one input. -/
def sideFirstWrong : ChangeSpec := { name := "sideFirst", fn := fun _ => fun
  | [d] => { results := [.lit (.bool false)], args := [d] }
  | _ => none }
def SideFirstWrongFalsely : Prop := sideFirstRow.holds Try.pinned (OpenSpec.ofChange sideFirstWrong)

/-- 'tammylaw08.SideUnknown': WHATEVER THE INPUT: true; the input reads as it did. -/
def sideUnknownSpec : ChangeSpec := { name := "sideUnknown", fn := fun _ => fun
  | [d1, d2] => { results := [.lit (.bool true)], args := [d1, d2] }
  | _ => none }
def sideUnknownRow : OpenClaim := { program := "ytgbickkmfjngbaa", sum := "56fafabcf1b291900d58c0ae58701d27e8cc7b8e97f7f041f19e7b66d0b0a2b2", func := "tammy/tammylaw08.SideUnknown", spec := "sideUnknown", unfollowed := true, recurses := true, apart := false }
def SideUnknownSaid : Prop := sideUnknownRow.holds Try.pinned (OpenSpec.ofChange sideUnknownSpec)

/-- ITS FALSE NEIGHBOUR: 'it returns false'. Refute it at one input. -/
def sideUnknownWrong : ChangeSpec := { name := "sideUnknown", fn := fun _ => fun
  | [d1, d2] => { results := [.lit (.bool false)], args := [d1, d2] }
  | _ => none }
def SideUnknownWrongFalsely : Prop := sideUnknownRow.holds Try.pinned (OpenSpec.ofChange sideUnknownWrong)

/- THE SECOND FORM. 'bulk': how many values and letters a reading holds, each counted each time it is reached (what is shared counts as often as it is met; a slice's spare places count too). A statement '..UptoSaid' is the law's where the arguments, and the package variables that the reading takes, are together of bulk at most 1048576: NARROWER than '..Said'. Prove '..Said' where nothing that the law and all that it calls make is longer than what came in: it says more and counts as full. Else prove '..UptoSaid'. A law counts once. -/
mutual
def uptoBulk {H : Type} : DataW H → Nat
  | .lit (.string bytes) => bytes.length + 1
  | .lit _ => 1
  | .nil => 1
  | .ptr d => uptoBulk d + 1
  | .slice elems spare => uptoBulkAll elems + uptoBulkAll spare + 1
  | .agg parts => uptoBulkAll parts + 1
  | .iface _ d => uptoBulk d + 1
  | .map entries => uptoBulkEntries entries + 1
  | .held _ => 1
def uptoBulkAll {H : Type} : List (DataW H) → Nat
  | [] => 0
  | d :: r => uptoBulk d + uptoBulkAll r
def uptoBulkEntries {H : Type} : List (Lit × DataW H) → Nat
  | [] => 0
  | x :: r => uptoBulkEntry x + uptoBulkEntries r
def uptoBulkEntry {H : Type} : Lit × DataW H → Nat
  | (.string bytes, d) => bytes.length + uptoBulk d + 1
  | (_, d) => uptoBulk d + 1
 end
def uptoSmall : (H : Type) → List (DataW H) → Bool := fun _ ds => decide (uptoBulkAll ds ≤ 1048576)
def OpenSpec.upto (s : _root_.Go.ChangeSpec) : _root_.Go.OpenSpec := { _root_.Go.OpenSpec.ofChange s with cond := some uptoSmall }

/-- 'tammylaw08.SideTells', WHERE WHAT IT READS IS OF BULK AT MOST 1048576: true; the input reads as it did. -/
def sideTellsUptoRow : OpenClaim := { program := "ytgbickkmfjngbaa", sum := "56fafabcf1b291900d58c0ae58701d27e8cc7b8e97f7f041f19e7b66d0b0a2b2", func := "tammy/tammylaw08.SideTells", spec := "sideTells", unfollowed := true, recurses := true, apart := false, narrowed := true }
def SideTellsUptoSaid : Prop := sideTellsUptoRow.holds Try.pinned (OpenSpec.upto sideTellsSpec)

/-- 'tammylaw08.SideBoth', WHERE WHAT IT READS IS OF BULK AT MOST 1048576: true; the input reads as it did. -/
def sideBothUptoRow : OpenClaim := { program := "ytgbickkmfjngbaa", sum := "56fafabcf1b291900d58c0ae58701d27e8cc7b8e97f7f041f19e7b66d0b0a2b2", func := "tammy/tammylaw08.SideBoth", spec := "sideBoth", unfollowed := true, recurses := true, apart := false, narrowed := true }
def SideBothUptoSaid : Prop := sideBothUptoRow.holds Try.pinned (OpenSpec.upto sideBothSpec)

/-- 'tammylaw08.SideParts', WHERE WHAT IT READS IS OF BULK AT MOST 1048576: true; the input reads as it did. -/
def sidePartsUptoRow : OpenClaim := { program := "ytgbickkmfjngbaa", sum := "56fafabcf1b291900d58c0ae58701d27e8cc7b8e97f7f041f19e7b66d0b0a2b2", func := "tammy/tammylaw08.SideParts", spec := "sideParts", unfollowed := true, recurses := true, apart := false, narrowed := true }
def SidePartsUptoSaid : Prop := sidePartsUptoRow.holds Try.pinned (OpenSpec.upto sidePartsSpec)

/-- 'tammylaw08.SideVars', WHERE WHAT IT READS IS OF BULK AT MOST 1048576: true; the input reads as it did. -/
def sideVarsUptoRow : OpenClaim := { program := "ytgbickkmfjngbaa", sum := "56fafabcf1b291900d58c0ae58701d27e8cc7b8e97f7f041f19e7b66d0b0a2b2", func := "tammy/tammylaw08.SideVars", spec := "sideVars", unfollowed := true, recurses := true, apart := false, narrowed := true }
def SideVarsUptoSaid : Prop := sideVarsUptoRow.holds Try.pinned (OpenSpec.upto sideVarsSpec)

/-- 'tammylaw08.SideTurns', WHERE WHAT IT READS IS OF BULK AT MOST 1048576: true; the input reads as it did. -/
def sideTurnsUptoRow : OpenClaim := { program := "ytgbickkmfjngbaa", sum := "56fafabcf1b291900d58c0ae58701d27e8cc7b8e97f7f041f19e7b66d0b0a2b2", func := "tammy/tammylaw08.SideTurns", spec := "sideTurns", unfollowed := true, recurses := true, apart := false, narrowed := true }
def SideTurnsUptoSaid : Prop := sideTurnsUptoRow.holds Try.pinned (OpenSpec.upto sideTurnsSpec)

/-- 'tammylaw08.SideFirst', WHERE WHAT IT READS IS OF BULK AT MOST 1048576: true; the input reads as it did. -/
def sideFirstUptoRow : OpenClaim := { program := "ytgbickkmfjngbaa", sum := "56fafabcf1b291900d58c0ae58701d27e8cc7b8e97f7f041f19e7b66d0b0a2b2", func := "tammy/tammylaw08.SideFirst", spec := "sideFirst", unfollowed := true, recurses := true, apart := false, narrowed := true }
def SideFirstUptoSaid : Prop := sideFirstUptoRow.holds Try.pinned (OpenSpec.upto sideFirstSpec)

/-- 'tammylaw08.SideUnknown', WHERE WHAT IT READS IS OF BULK AT MOST 1048576: true; the input reads as it did. -/
def sideUnknownUptoRow : OpenClaim := { program := "ytgbickkmfjngbaa", sum := "56fafabcf1b291900d58c0ae58701d27e8cc7b8e97f7f041f19e7b66d0b0a2b2", func := "tammy/tammylaw08.SideUnknown", spec := "sideUnknown", unfollowed := true, recurses := true, apart := false, narrowed := true }
def SideUnknownUptoSaid : Prop := sideUnknownUptoRow.holds Try.pinned (OpenSpec.upto sideUnknownSpec)

end Rows
end Go.Proofs.Ytgbickkmfjngbaa
