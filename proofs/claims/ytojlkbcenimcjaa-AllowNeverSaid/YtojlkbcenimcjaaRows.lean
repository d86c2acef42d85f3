/-
  No cell of these rows narrows 'for every input' (looked for: loops, veiled, ifaces, maps, wideKeys, modest, calm, conditions, laid).
  DERIVED. THE GIVEN ROWS OF THIS SEAT. 4 by the template 'for every input the law returns true; each argument reads behind the call as it read before'; 0 by the template 'total and deterministic' (their statements: YtojlkbcenimcjaaTotals.lean).
  GIVEN WITH THE SEED: the statements are not yours to turn. If you find one false, say at which input.
  Laid BY PROGRAM, IN A SANDBOX (cutbox-rows.mjs): the forced cells as the released guide's own fill.sh prints them over the translation efd4db7752faa2e6… (all of the seat's roots in one cut). By AI agents, Wed Nov 11 2026. No macro, syntax, notation, axiom, sorry.
-/
import Derived.Test.YtojlkbcenimcjaaChecked
import GoSem.Claim
import GoSem.ClaimJoined
import GoSem.ClaimMapViews
import Derived.JoinedTies
import Derived.KernelRfl
namespace Go.Proofs.Ytojlkbcenimcjaa
/- THE CELL 'sum', in the pinned program and in every row, IS THE sha256 OF THE DUMP (.gsa) THAT YtojlkbcenimcjaaProg.lean LOADS. Nothing in Lean hashes anything: it is a label: what it is worth is what the hold of that sum in a sandbox is worth. -/
noncomputable def Try.pinned : Pinned := { name := "ytojlkbcenimcjaa", sum := "efd4db7752faa2e6cca158d91d259cb7ea2fb0f1b1c9cb6a06e7f8f149522428", checked := Try.checked }
namespace Rows
def none {H : Type} : Left H := { results := [], args := [] }

/-- 'supercargolaw30.AllowMost': WHATEVER THE INPUT: true; the input reads as it did. -/
def allowMostSpec : ChangeSpec := { name := "allowMost", fn := fun _ => fun
  | [d1, d2, d3, d4] => { results := [.lit (.bool true)], args := [d1, d2, d3, d4] }
  | _ => none }
def allowMostRow : OpenClaim := { program := "ytojlkbcenimcjaa", sum := "efd4db7752faa2e6cca158d91d259cb7ea2fb0f1b1c9cb6a06e7f8f149522428", func := "supercargo/supercargolaw30.AllowMost", spec := "allowMost", apart := false }
def AllowMostSaid : Prop := allowMostRow.holds Try.pinned (OpenSpec.ofChange allowMostSpec)

/-- ITS FALSE NEIGHBOUR: 'it returns false'. Refute it at one input. -/
def allowMostWrong : ChangeSpec := { name := "allowMost", fn := fun _ => fun
  | [d1, d2, d3, d4] => { results := [.lit (.bool false)], args := [d1, d2, d3, d4] }
  | _ => none }
def AllowMostWrongFalsely : Prop := allowMostRow.holds Try.pinned (OpenSpec.ofChange allowMostWrong)

/-- 'supercargolaw30.AllowWithin': WHATEVER THE INPUT: true; the input reads as it did. -/
def allowWithinSpec : ChangeSpec := { name := "allowWithin", fn := fun _ => fun
  | [d1, d2, d3, d4] => { results := [.lit (.bool true)], args := [d1, d2, d3, d4] }
  | _ => none }
def allowWithinRow : OpenClaim := { program := "ytojlkbcenimcjaa", sum := "efd4db7752faa2e6cca158d91d259cb7ea2fb0f1b1c9cb6a06e7f8f149522428", func := "supercargo/supercargolaw30.AllowWithin", spec := "allowWithin", apart := false }
def AllowWithinSaid : Prop := allowWithinRow.holds Try.pinned (OpenSpec.ofChange allowWithinSpec)

/-- ITS FALSE NEIGHBOUR: 'it returns false'. Refute it at one input. -/
def allowWithinWrong : ChangeSpec := { name := "allowWithin", fn := fun _ => fun
  | [d1, d2, d3, d4] => { results := [.lit (.bool false)], args := [d1, d2, d3, d4] }
  | _ => none }
def AllowWithinWrongFalsely : Prop := allowWithinRow.holds Try.pinned (OpenSpec.ofChange allowWithinWrong)

/-- 'supercargolaw30.AllowParts': WHATEVER THE INPUT: true; the input reads as it did. -/
def allowPartsSpec : ChangeSpec := { name := "allowParts", fn := fun _ => fun
  | [d1, d2, d3, d4, d5, d6, d7, d8, d9] => { results := [.lit (.bool true)], args := [d1, d2, d3, d4, d5, d6, d7, d8, d9] }
  | _ => none }
def allowPartsRow : OpenClaim := { program := "ytojlkbcenimcjaa", sum := "efd4db7752faa2e6cca158d91d259cb7ea2fb0f1b1c9cb6a06e7f8f149522428", func := "supercargo/supercargolaw30.AllowParts", spec := "allowParts", unfollowed := true, recurses := true, apart := false }
def AllowPartsSaid : Prop := allowPartsRow.holds Try.pinned (OpenSpec.ofChange allowPartsSpec)

/-- ITS FALSE NEIGHBOUR: 'it returns false'. Refute it at one input. -/
def allowPartsWrong : ChangeSpec := { name := "allowParts", fn := fun _ => fun
  | [d1, d2, d3, d4, d5, d6, d7, d8, d9] => { results := [.lit (.bool false)], args := [d1, d2, d3, d4, d5, d6, d7, d8, d9] }
  | _ => none }
def AllowPartsWrongFalsely : Prop := allowPartsRow.holds Try.pinned (OpenSpec.ofChange allowPartsWrong)

/-- 'supercargolaw30.AllowNever': WHATEVER THE INPUT: true; the input reads as it did. -/
def allowNeverSpec : ChangeSpec := { name := "allowNever", fn := fun _ => fun
  | [d1, d2, d3, d4, d5, d6] => { results := [.lit (.bool true)], args := [d1, d2, d3, d4, d5, d6] }
  | _ => none }
def allowNeverRow : OpenClaim := { program := "ytojlkbcenimcjaa", sum := "efd4db7752faa2e6cca158d91d259cb7ea2fb0f1b1c9cb6a06e7f8f149522428", func := "supercargo/supercargolaw30.AllowNever", spec := "allowNever", unfollowed := true, recurses := true, apart := false }
def AllowNeverSaid : Prop := allowNeverRow.holds Try.pinned (OpenSpec.ofChange allowNeverSpec)

/-- ITS FALSE NEIGHBOUR: 'it returns false'. Refute it at one input. -/
def allowNeverWrong : ChangeSpec := { name := "allowNever", fn := fun _ => fun
  | [d1, d2, d3, d4, d5, d6] => { results := [.lit (.bool false)], args := [d1, d2, d3, d4, d5, d6] }
  | _ => none }
def AllowNeverWrongFalsely : Prop := allowNeverRow.holds Try.pinned (OpenSpec.ofChange allowNeverWrong)

/- THE SECOND FORM. 'bulk': how many values and letters a reading holds, each counted each time it is reached (what is shared counts as often as it is met; a slice's spare places count too). A statement '..UptoSaid' is the law's where the arguments, and the package variables that the reading takes, are together of bulk at most 1048576: NARROWER than '..Said'. Prove '..Said' where nothing that the law and all that it calls make is longer than what came in: it says more and counts as full. Else prove '..UptoSaid'. A law counts once. -/
mutual
def uptoBulk {H : Type} : DataW H → Nat
  | .lit (.string bytes) => bytes.length + 1
  | .lit _ => 1
  | .nil => 1
  | .ptr d => uptoBulk d + 1
  | .slice elems spare => uptoBulkAll elems + uptoBulkAll spare + 1
  | .agg parts => uptoBulkAll parts + 1
  | .iface _ d => uptoBulk d + 1
  | .map entries => uptoBulkEntries entries + 1
  | .held _ => 1
def uptoBulkAll {H : Type} : List (DataW H) → Nat
  | [] => 0
  | d :: r => uptoBulk d + uptoBulkAll r
def uptoBulkEntries {H : Type} : List (Lit × DataW H) → Nat
  | [] => 0
  | x :: r => uptoBulkEntry x + uptoBulkEntries r
def uptoBulkEntry {H : Type} : Lit × DataW H → Nat
  | (.string bytes, d) => bytes.length + uptoBulk d + 1
  | (_, d) => uptoBulk d + 1
 end
def uptoSmall : (H : Type) → List (DataW H) → Bool := fun _ ds => decide (uptoBulkAll ds ≤ 1048576)
def OpenSpec.upto (s : _root_.Go.ChangeSpec) : _root_.Go.OpenSpec := { _root_.Go.OpenSpec.ofChange s with cond := some uptoSmall }

/-- 'supercargolaw30.AllowMost', WHERE WHAT IT READS IS OF BULK AT MOST 1048576: true; the input reads as it did. -/
def allowMostUptoRow : OpenClaim := { program := "ytojlkbcenimcjaa", sum := "efd4db7752faa2e6cca158d91d259cb7ea2fb0f1b1c9cb6a06e7f8f149522428", func := "supercargo/supercargolaw30.AllowMost", spec := "allowMost", apart := false, narrowed := true }
def AllowMostUptoSaid : Prop := allowMostUptoRow.holds Try.pinned (OpenSpec.upto allowMostSpec)

/-- 'supercargolaw30.AllowWithin', WHERE WHAT IT READS IS OF BULK AT MOST 1048576: true; the input reads as it did. -/
def allowWithinUptoRow : OpenClaim := { program := "ytojlkbcenimcjaa", sum := "efd4db7752faa2e6cca158d91d259cb7ea2fb0f1b1c9cb6a06e7f8f149522428", func := "supercargo/supercargolaw30.AllowWithin", spec := "allowWithin", apart := false, narrowed := true }
def AllowWithinUptoSaid : Prop := allowWithinUptoRow.holds Try.pinned (OpenSpec.upto allowWithinSpec)

/-- 'supercargolaw30.AllowParts', WHERE WHAT IT READS IS OF BULK AT MOST 1048576: true; the input reads as it did. -/
def allowPartsUptoRow : OpenClaim := { program := "ytojlkbcenimcjaa", sum := "efd4db7752faa2e6cca158d91d259cb7ea2fb0f1b1c9cb6a06e7f8f149522428", func := "supercargo/supercargolaw30.AllowParts", spec := "allowParts", unfollowed := true, recurses := true, apart := false, narrowed := true }
def AllowPartsUptoSaid : Prop := allowPartsUptoRow.holds Try.pinned (OpenSpec.upto allowPartsSpec)

/-- 'supercargolaw30.AllowNever', WHERE WHAT IT READS IS OF BULK AT MOST 1048576: true; the input reads as it did. -/
def allowNeverUptoRow : OpenClaim := { program := "ytojlkbcenimcjaa", sum := "efd4db7752faa2e6cca158d91d259cb7ea2fb0f1b1c9cb6a06e7f8f149522428", func := "supercargo/supercargolaw30.AllowNever", spec := "allowNever", unfollowed := true, recurses := true, apart := false, narrowed := true }
def AllowNeverUptoSaid : Prop := allowNeverUptoRow.holds Try.pinned (OpenSpec.upto allowNeverSpec)

end Rows
end Go.Proofs.Ytojlkbcenimcjaa
