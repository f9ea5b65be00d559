/-
  No cell of these rows narrows 'for every input' (looked for: loops, veiled, ifaces, maps, wideKeys, modest, calm, conditions, laid).
  DERIVED. THE GIVEN ROWS OF THIS SEAT. 5 by the template 'for every input the law returns true; each argument reads behind the call as it read before'; 0 by the template 'total and deterministic' (their statements: YtfjgfkokhnpbcaaTotals.lean).
  GIVEN WITH THE SEED: the statements are not yours to turn. If you find one false, say at which input.
  Laid BY PROGRAM, IN A SANDBOX (cutbox-rows.mjs): the forced cells as the released guide's own fill.sh prints them over the translation e8f8a0a2a47533bc… (all of the seat's roots in one cut). By AI agents, Wed Nov 11 2026. No macro, syntax, notation, axiom, sorry.
-/
import Derived.Test.YtfjgfkokhnpbcaaChecked
import GoSem.Claim
import GoSem.ClaimJoined
import GoSem.ClaimMapViews
import Derived.JoinedTies
import Derived.KernelRfl
namespace Go.Proofs.Ytfjgfkokhnpbcaa
/- THE CELL 'sum', in the pinned program and in every row, IS THE sha256 OF THE DUMP (.gsa) THAT YtfjgfkokhnpbcaaProg.lean LOADS. Nothing in Lean hashes anything: it is a label: what it is worth is what the hold of that sum in a sandbox is worth. -/
noncomputable def Try.pinned : Pinned := { name := "ytfjgfkokhnpbcaa", sum := "e8f8a0a2a47533bc7f12ea0fde27518f52c65084563eb6eda199c903fc3f5b34", checked := Try.checked }
namespace Rows
def none {H : Type} : Left H := { results := [], args := [] }

/-- 'tammylaw11.WorkStays': WHATEVER THE INPUT: true; the input reads as it did. -/
def workStaysSpec : ChangeSpec := { name := "workStays", fn := fun _ => fun
  | [d1, d2] => { results := [.lit (.bool true)], args := [d1, d2] }
  | _ => none }
def workStaysRow : OpenClaim := { program := "ytfjgfkokhnpbcaa", sum := "e8f8a0a2a47533bc7f12ea0fde27518f52c65084563eb6eda199c903fc3f5b34", func := "tammy/tammylaw11.WorkStays", spec := "workStays", unfollowed := true, recurses := true, apart := false }
def WorkStaysSaid : Prop := workStaysRow.holds Try.pinned (OpenSpec.ofChange workStaysSpec)

/-- ITS FALSE NEIGHBOUR: 'it returns false'. Refute it at one input. -/
def workStaysWrong : ChangeSpec := { name := "workStays", fn := fun _ => fun
  | [d1, d2] => { results := [.lit (.bool false)], args := [d1, d2] }
  | _ => none }
def WorkStaysWrongFalsely : Prop := workStaysRow.holds Try.pinned (OpenSpec.ofChange workStaysWrong)

/-- 'tammylaw11.WorkAll': WHATEVER THE INPUT: true; the input reads as it did. -/
def workAllSpec : ChangeSpec := { name := "workAll", fn := fun _ => fun
  | [d] => { results := [.lit (.bool true)], args := [d] }
  | _ => none }
def workAllRow : OpenClaim := { program := "ytfjgfkokhnpbcaa", sum := "e8f8a0a2a47533bc7f12ea0fde27518f52c65084563eb6eda199c903fc3f5b34", func := "tammy/tammylaw11.WorkAll", spec := "workAll", unfollowed := true, recurses := true, apart := false }
def WorkAllSaid : Prop := workAllRow.holds Try.pinned (OpenSpec.ofChange workAllSpec)

/-- ITS FALSE NEIGHBOUR: 'it returns false'. Refute it at one input. -/
def workAllWrong : ChangeSpec := { name := "workAll", fn := fun _ => fun
  | [d] => { results := [.lit (.bool false)], args := [d] }
  | _ => none }
def WorkAllWrongFalsely : Prop := workAllRow.holds Try.pinned (OpenSpec.ofChange workAllWrong)

/-- 'tammylaw11.WorkLess': WHATEVER THE INPUT: true; the input reads as it did. -/
def workLessSpec : ChangeSpec := { name := "workLess", fn := fun _ => fun
  | [d1, d2, d3] => { results := [.lit (.bool true)], args := [d1, d2, d3] }
  | _ => none }
def workLessRow : OpenClaim := { program := "ytfjgfkokhnpbcaa", sum := "e8f8a0a2a47533bc7f12ea0fde27518f52c65084563eb6eda199c903fc3f5b34", func := "tammy/tammylaw11.WorkLess", spec := "workLess", unfollowed := true, recurses := true, apart := false }
def WorkLessSaid : Prop := workLessRow.holds Try.pinned (OpenSpec.ofChange workLessSpec)

/-- ITS FALSE NEIGHBOUR: 'it returns false'. Refute it at one input. -/
def workLessWrong : ChangeSpec := { name := "workLess", fn := fun _ => fun
  | [d1, d2, d3] => { results := [.lit (.bool false)], args := [d1, d2, d3] }
  | _ => none }
def WorkLessWrongFalsely : Prop := workLessRow.holds Try.pinned (OpenSpec.ofChange workLessWrong)

/-- 'tammylaw11.WorkSeen': WHATEVER THE INPUT: true; the input reads as it did. -/
def workSeenSpec : ChangeSpec := { name := "workSeen", fn := fun _ => fun
  | [d1, d2] => { results := [.lit (.bool true)], args := [d1, d2] }
  | _ => none }
def workSeenRow : OpenClaim := { program := "ytfjgfkokhnpbcaa", sum := "e8f8a0a2a47533bc7f12ea0fde27518f52c65084563eb6eda199c903fc3f5b34", func := "tammy/tammylaw11.WorkSeen", spec := "workSeen", unfollowed := true, recurses := true, apart := false }
def WorkSeenSaid : Prop := workSeenRow.holds Try.pinned (OpenSpec.ofChange workSeenSpec)

/-- ITS FALSE NEIGHBOUR: 'it returns false'. Refute it at one input. -/
def workSeenWrong : ChangeSpec := { name := "workSeen", fn := fun _ => fun
  | [d1, d2] => { results := [.lit (.bool false)], args := [d1, d2] }
  | _ => none }
def WorkSeenWrongFalsely : Prop := workSeenRow.holds Try.pinned (OpenSpec.ofChange workSeenWrong)

/-- 'tammylaw11.WorkOrder': WHATEVER THE INPUT: true; the input reads as it did. -/
def workOrderSpec : ChangeSpec := { name := "workOrder", fn := fun _ => fun
  | [d1, d2, d3] => { results := [.lit (.bool true)], args := [d1, d2, d3] }
  | _ => none }
def workOrderRow : OpenClaim := { program := "ytfjgfkokhnpbcaa", sum := "e8f8a0a2a47533bc7f12ea0fde27518f52c65084563eb6eda199c903fc3f5b34", func := "tammy/tammylaw11.WorkOrder", spec := "workOrder", unfollowed := true, recurses := true, apart := false }
def WorkOrderSaid : Prop := workOrderRow.holds Try.pinned (OpenSpec.ofChange workOrderSpec)

/-- ITS FALSE NEIGHBOUR: 'it returns false'. Refute it at one input. -/
def workOrderWrong : ChangeSpec := { name := "workOrder", fn := fun _ => fun
  | [d1, d2, d3] => { results := [.lit (.bool false)], args := [d1, d2, d3] }
  | _ => none }
def WorkOrderWrongFalsely : Prop := workOrderRow.holds Try.pinned (OpenSpec.ofChange workOrderWrong)

/- THE SECOND FORM. 'bulk': how many values and letters a reading holds, each counted each time it is reached (what is shared counts as often as it is met; a slice's spare places count too). A statement '..UptoSaid' is the law's where the arguments, and the package variables that the reading takes, are together of bulk at most 1048576: NARROWER than '..Said'. Prove '..Said' where nothing that the law and all that it calls make is longer than what came in: it says more and counts as full. Else prove '..UptoSaid'. A law counts once. -/
mutual
def uptoBulk {H : Type} : DataW H → Nat
  | .lit (.string bytes) => bytes.length + 1
  | .lit _ => 1
  | .nil => 1
  | .ptr d => uptoBulk d + 1
  | .slice elems spare => uptoBulkAll elems + uptoBulkAll spare + 1
  | .agg parts => uptoBulkAll parts + 1
  | .iface _ d => uptoBulk d + 1
  | .map entries => uptoBulkEntries entries + 1
  | .held _ => 1
def uptoBulkAll {H : Type} : List (DataW H) → Nat
  | [] => 0
  | d :: r => uptoBulk d + uptoBulkAll r
def uptoBulkEntries {H : Type} : List (Lit × DataW H) → Nat
  | [] => 0
  | x :: r => uptoBulkEntry x + uptoBulkEntries r
def uptoBulkEntry {H : Type} : Lit × DataW H → Nat
  | (.string bytes, d) => bytes.length + uptoBulk d + 1
  | (_, d) => uptoBulk d + 1
 end
def uptoSmall : (H : Type) → List (DataW H) → Bool := fun _ ds => decide (uptoBulkAll ds ≤ 1048576)
def OpenSpec.upto (s : _root_.Go.ChangeSpec) : _root_.Go.OpenSpec := { _root_.Go.OpenSpec.ofChange s with cond := some uptoSmall }

/-- 'tammylaw11.WorkStays', WHERE WHAT IT READS IS OF BULK AT MOST 1048576: true; the input reads as it did. -/
def workStaysUptoRow : OpenClaim := { program := "ytfjgfkokhnpbcaa", sum := "e8f8a0a2a47533bc7f12ea0fde27518f52c65084563eb6eda199c903fc3f5b34", func := "tammy/tammylaw11.WorkStays", spec := "workStays", unfollowed := true, recurses := true, apart := false, narrowed := true }
def WorkStaysUptoSaid : Prop := workStaysUptoRow.holds Try.pinned (OpenSpec.upto workStaysSpec)

/-- 'tammylaw11.WorkAll', WHERE WHAT IT READS IS OF BULK AT MOST 1048576: true; the input reads as it did. -/
def workAllUptoRow : OpenClaim := { program := "ytfjgfkokhnpbcaa", sum := "e8f8a0a2a47533bc7f12ea0fde27518f52c65084563eb6eda199c903fc3f5b34", func := "tammy/tammylaw11.WorkAll", spec := "workAll", unfollowed := true, recurses := true, apart := false, narrowed := true }
def WorkAllUptoSaid : Prop := workAllUptoRow.holds Try.pinned (OpenSpec.upto workAllSpec)

/-- 'tammylaw11.WorkLess', WHERE WHAT IT READS IS OF BULK AT MOST 1048576: true; the input reads as it did. -/
def workLessUptoRow : OpenClaim := { program := "ytfjgfkokhnpbcaa", sum := "e8f8a0a2a47533bc7f12ea0fde27518f52c65084563eb6eda199c903fc3f5b34", func := "tammy/tammylaw11.WorkLess", spec := "workLess", unfollowed := true, recurses := true, apart := false, narrowed := true }
def WorkLessUptoSaid : Prop := workLessUptoRow.holds Try.pinned (OpenSpec.upto workLessSpec)

/-- 'tammylaw11.WorkSeen', WHERE WHAT IT READS IS OF BULK AT MOST 1048576: true; the input reads as it did. -/
def workSeenUptoRow : OpenClaim := { program := "ytfjgfkokhnpbcaa", sum := "e8f8a0a2a47533bc7f12ea0fde27518f52c65084563eb6eda199c903fc3f5b34", func := "tammy/tammylaw11.WorkSeen", spec := "workSeen", unfollowed := true, recurses := true, apart := false, narrowed := true }
def WorkSeenUptoSaid : Prop := workSeenUptoRow.holds Try.pinned (OpenSpec.upto workSeenSpec)

/-- 'tammylaw11.WorkOrder', WHERE WHAT IT READS IS OF BULK AT MOST 1048576: true; the input reads as it did. -/
def workOrderUptoRow : OpenClaim := { program := "ytfjgfkokhnpbcaa", sum := "e8f8a0a2a47533bc7f12ea0fde27518f52c65084563eb6eda199c903fc3f5b34", func := "tammy/tammylaw11.WorkOrder", spec := "workOrder", unfollowed := true, recurses := true, apart := false, narrowed := true }
def WorkOrderUptoSaid : Prop := workOrderUptoRow.holds Try.pinned (OpenSpec.upto workOrderSpec)

end Rows
end Go.Proofs.Ytfjgfkokhnpbcaa
