/-
  No cell of these rows narrows 'for every input' (looked for: loops, veiled, ifaces, maps, wideKeys, modest, calm, conditions, laid).
  DERIVED. THE GIVEN ROWS OF THIS SEAT. 6 by the template 'for every input the law returns true; each argument reads behind the call as it read before'; 0 by the template 'total and deterministic' (their statements: YtgmmdnilnmoknaaTotals.lean).
  GIVEN WITH THE SEED: the statements are not yours to turn. If you find one false, say at which input.
  Laid BY PROGRAM, IN A SANDBOX (cutbox-rows.mjs): the forced cells as the released guide's own fill.sh prints them over the translation c743aefdc0e01585… (all of the seat's roots in one cut). By AI agents, Wed Nov 11 2026. No macro, syntax, notation, axiom, sorry.
-/
import Derived.Test.YtgmmdnilnmoknaaChecked
import GoSem.Claim
import GoSem.ClaimJoined
import GoSem.ClaimMapViews
import Derived.JoinedTies
import Derived.KernelRfl
namespace Go.Proofs.Ytgmmdnilnmoknaa
/- THE CELL 'sum', in the pinned program and in every row, IS THE sha256 OF THE DUMP (.gsa) THAT YtgmmdnilnmoknaaProg.lean LOADS. Nothing in Lean hashes anything: it is a label: what it is worth is what the hold of that sum in a sandbox is worth. -/
noncomputable def Try.pinned : Pinned := { name := "ytgmmdnilnmoknaa", sum := "c743aefdc0e01585f3b1e45cefdb7fde290f058f194d116703b1415f648f64a6", checked := Try.checked }
namespace Rows
def none {H : Type} : Left H := { results := [], args := [] }

/-- 'linnetlaw02.NvtTells': WHATEVER THE INPUT: true; the input reads as it did. -/
def nvtTellsSpec : ChangeSpec := { name := "nvtTells", fn := fun _ => fun
  | [d] => { results := [.lit (.bool true)], args := [d] }
  | _ => none }
def nvtTellsRow : OpenClaim := { program := "ytgmmdnilnmoknaa", sum := "c743aefdc0e01585f3b1e45cefdb7fde290f058f194d116703b1415f648f64a6", func := "linnet/linnetlaw02.NvtTells", spec := "nvtTells", unfollowed := true, recurses := true, apart := false }
def NvtTellsSaid : Prop := nvtTellsRow.holds Try.pinned (OpenSpec.ofChange nvtTellsSpec)

/-- ITS FALSE NEIGHBOUR: 'it returns false'. Refute it at one input. -/
def nvtTellsWrong : ChangeSpec := { name := "nvtTells", fn := fun _ => fun
  | [d] => { results := [.lit (.bool false)], args := [d] }
  | _ => none }
def NvtTellsWrongFalsely : Prop := nvtTellsRow.holds Try.pinned (OpenSpec.ofChange nvtTellsWrong)

/-- 'linnetlaw02.NvtBack': WHATEVER THE INPUT: true; the input reads as it did. -/
def nvtBackSpec : ChangeSpec := { name := "nvtBack", fn := fun _ => fun
  | [d1, d2] => { results := [.lit (.bool true)], args := [d1, d2] }
  | _ => none }
def nvtBackRow : OpenClaim := { program := "ytgmmdnilnmoknaa", sum := "c743aefdc0e01585f3b1e45cefdb7fde290f058f194d116703b1415f648f64a6", func := "linnet/linnetlaw02.NvtBack", spec := "nvtBack", unfollowed := true, recurses := true, apart := false }
def NvtBackSaid : Prop := nvtBackRow.holds Try.pinned (OpenSpec.ofChange nvtBackSpec)

/-- ITS FALSE NEIGHBOUR: 'it returns false'. Refute it at one input. -/
def nvtBackWrong : ChangeSpec := { name := "nvtBack", fn := fun _ => fun
  | [d1, d2] => { results := [.lit (.bool false)], args := [d1, d2] }
  | _ => none }
def NvtBackWrongFalsely : Prop := nvtBackRow.holds Try.pinned (OpenSpec.ofChange nvtBackWrong)

/-- 'linnetlaw02.NvtJoins': WHATEVER THE INPUT: true; the input reads as it did. -/
def nvtJoinsSpec : ChangeSpec := { name := "nvtJoins", fn := fun _ => fun
  | [d1, d2] => { results := [.lit (.bool true)], args := [d1, d2] }
  | _ => none }
def nvtJoinsRow : OpenClaim := { program := "ytgmmdnilnmoknaa", sum := "c743aefdc0e01585f3b1e45cefdb7fde290f058f194d116703b1415f648f64a6", func := "linnet/linnetlaw02.NvtJoins", spec := "nvtJoins", unfollowed := true, recurses := true, apart := false }
def NvtJoinsSaid : Prop := nvtJoinsRow.holds Try.pinned (OpenSpec.ofChange nvtJoinsSpec)

/-- ITS FALSE NEIGHBOUR: 'it returns false'. Refute it at one input. -/
def nvtJoinsWrong : ChangeSpec := { name := "nvtJoins", fn := fun _ => fun
  | [d1, d2] => { results := [.lit (.bool false)], args := [d1, d2] }
  | _ => none }
def NvtJoinsWrongFalsely : Prop := nvtJoinsRow.holds Try.pinned (OpenSpec.ofChange nvtJoinsWrong)

/-- 'linnetlaw02.NvtAgain': WHATEVER THE INPUT: true; the input reads as it did. -/
def nvtAgainSpec : ChangeSpec := { name := "nvtAgain", fn := fun _ => fun
  | [d] => { results := [.lit (.bool true)], args := [d] }
  | _ => none }
def nvtAgainRow : OpenClaim := { program := "ytgmmdnilnmoknaa", sum := "c743aefdc0e01585f3b1e45cefdb7fde290f058f194d116703b1415f648f64a6", func := "linnet/linnetlaw02.NvtAgain", spec := "nvtAgain", unfollowed := true, recurses := true, apart := false }
def NvtAgainSaid : Prop := nvtAgainRow.holds Try.pinned (OpenSpec.ofChange nvtAgainSpec)

/-- ITS FALSE NEIGHBOUR: 'it returns false'. Refute it at one input. -/
def nvtAgainWrong : ChangeSpec := { name := "nvtAgain", fn := fun _ => fun
  | [d] => { results := [.lit (.bool false)], args := [d] }
  | _ => none }
def NvtAgainWrongFalsely : Prop := nvtAgainRow.holds Try.pinned (OpenSpec.ofChange nvtAgainWrong)

/-- 'linnetlaw02.NvtPlain': WHATEVER THE INPUT: true; the input reads as it did. -/
def nvtPlainSpec : ChangeSpec := { name := "nvtPlain", fn := fun _ => fun
  | [d1, d2] => { results := [.lit (.bool true)], args := [d1, d2] }
  | _ => none }
def nvtPlainRow : OpenClaim := { program := "ytgmmdnilnmoknaa", sum := "c743aefdc0e01585f3b1e45cefdb7fde290f058f194d116703b1415f648f64a6", func := "linnet/linnetlaw02.NvtPlain", spec := "nvtPlain", unfollowed := true, recurses := true, apart := false }
def NvtPlainSaid : Prop := nvtPlainRow.holds Try.pinned (OpenSpec.ofChange nvtPlainSpec)

/-- ITS FALSE NEIGHBOUR: 'it returns false'. Refute it at one input. -/
def nvtPlainWrong : ChangeSpec := { name := "nvtPlain", fn := fun _ => fun
  | [d1, d2] => { results := [.lit (.bool false)], args := [d1, d2] }
  | _ => none }
def NvtPlainWrongFalsely : Prop := nvtPlainRow.holds Try.pinned (OpenSpec.ofChange nvtPlainWrong)

/-- 'linnetlaw02.NvtCut': WHATEVER THE INPUT: true; the input reads as it did. -/
def nvtCutSpec : ChangeSpec := { name := "nvtCut", fn := fun _ => fun
  | [d1, d2] => { results := [.lit (.bool true)], args := [d1, d2] }
  | _ => none }
def nvtCutRow : OpenClaim := { program := "ytgmmdnilnmoknaa", sum := "c743aefdc0e01585f3b1e45cefdb7fde290f058f194d116703b1415f648f64a6", func := "linnet/linnetlaw02.NvtCut", spec := "nvtCut", unfollowed := true, recurses := true, apart := false }
def NvtCutSaid : Prop := nvtCutRow.holds Try.pinned (OpenSpec.ofChange nvtCutSpec)

/-- ITS FALSE NEIGHBOUR: 'it returns false'. Refute it at one input. -/
def nvtCutWrong : ChangeSpec := { name := "nvtCut", fn := fun _ => fun
  | [d1, d2] => { results := [.lit (.bool false)], args := [d1, d2] }
  | _ => none }
def NvtCutWrongFalsely : Prop := nvtCutRow.holds Try.pinned (OpenSpec.ofChange nvtCutWrong)

/- THE SECOND FORM. 'bulk': how many values and letters a reading holds, each counted each time it is reached (what is shared counts as often as it is met; a slice's spare places count too). A statement '..UptoSaid' is the law's where the arguments, and the package variables that the reading takes, are together of bulk at most 1048576: NARROWER than '..Said'. Prove '..Said' where nothing that the law and all that it calls make is longer than what came in: it says more and counts as full. Else prove '..UptoSaid'. A law counts once. -/
mutual
def uptoBulk {H : Type} : DataW H → Nat
  | .lit (.string bytes) => bytes.length + 1
  | .lit _ => 1
  | .nil => 1
  | .ptr d => uptoBulk d + 1
  | .slice elems spare => uptoBulkAll elems + uptoBulkAll spare + 1
  | .agg parts => uptoBulkAll parts + 1
  | .iface _ d => uptoBulk d + 1
  | .map entries => uptoBulkEntries entries + 1
  | .held _ => 1
def uptoBulkAll {H : Type} : List (DataW H) → Nat
  | [] => 0
  | d :: r => uptoBulk d + uptoBulkAll r
def uptoBulkEntries {H : Type} : List (Lit × DataW H) → Nat
  | [] => 0
  | x :: r => uptoBulkEntry x + uptoBulkEntries r
def uptoBulkEntry {H : Type} : Lit × DataW H → Nat
  | (.string bytes, d) => bytes.length + uptoBulk d + 1
  | (_, d) => uptoBulk d + 1
 end
def uptoSmall : (H : Type) → List (DataW H) → Bool := fun _ ds => decide (uptoBulkAll ds ≤ 1048576)
def OpenSpec.upto (s : _root_.Go.ChangeSpec) : _root_.Go.OpenSpec := { _root_.Go.OpenSpec.ofChange s with cond := some uptoSmall }

/-- 'linnetlaw02.NvtTells', WHERE WHAT IT READS IS OF BULK AT MOST 1048576: true; the input reads as it did. -/
def nvtTellsUptoRow : OpenClaim := { program := "ytgmmdnilnmoknaa", sum := "c743aefdc0e01585f3b1e45cefdb7fde290f058f194d116703b1415f648f64a6", func := "linnet/linnetlaw02.NvtTells", spec := "nvtTells", unfollowed := true, recurses := true, apart := false, narrowed := true }
def NvtTellsUptoSaid : Prop := nvtTellsUptoRow.holds Try.pinned (OpenSpec.upto nvtTellsSpec)

/-- 'linnetlaw02.NvtBack', WHERE WHAT IT READS IS OF BULK AT MOST 1048576: true; the input reads as it did. -/
def nvtBackUptoRow : OpenClaim := { program := "ytgmmdnilnmoknaa", sum := "c743aefdc0e01585f3b1e45cefdb7fde290f058f194d116703b1415f648f64a6", func := "linnet/linnetlaw02.NvtBack", spec := "nvtBack", unfollowed := true, recurses := true, apart := false, narrowed := true }
def NvtBackUptoSaid : Prop := nvtBackUptoRow.holds Try.pinned (OpenSpec.upto nvtBackSpec)

/-- 'linnetlaw02.NvtJoins', WHERE WHAT IT READS IS OF BULK AT MOST 1048576: true; the input reads as it did. -/
def nvtJoinsUptoRow : OpenClaim := { program := "ytgmmdnilnmoknaa", sum := "c743aefdc0e01585f3b1e45cefdb7fde290f058f194d116703b1415f648f64a6", func := "linnet/linnetlaw02.NvtJoins", spec := "nvtJoins", unfollowed := true, recurses := true, apart := false, narrowed := true }
def NvtJoinsUptoSaid : Prop := nvtJoinsUptoRow.holds Try.pinned (OpenSpec.upto nvtJoinsSpec)

/-- 'linnetlaw02.NvtAgain', WHERE WHAT IT READS IS OF BULK AT MOST 1048576: true; the input reads as it did. -/
def nvtAgainUptoRow : OpenClaim := { program := "ytgmmdnilnmoknaa", sum := "c743aefdc0e01585f3b1e45cefdb7fde290f058f194d116703b1415f648f64a6", func := "linnet/linnetlaw02.NvtAgain", spec := "nvtAgain", unfollowed := true, recurses := true, apart := false, narrowed := true }
def NvtAgainUptoSaid : Prop := nvtAgainUptoRow.holds Try.pinned (OpenSpec.upto nvtAgainSpec)

/-- 'linnetlaw02.NvtPlain', WHERE WHAT IT READS IS OF BULK AT MOST 1048576: true; the input reads as it did. -/
def nvtPlainUptoRow : OpenClaim := { program := "ytgmmdnilnmoknaa", sum := "c743aefdc0e01585f3b1e45cefdb7fde290f058f194d116703b1415f648f64a6", func := "linnet/linnetlaw02.NvtPlain", spec := "nvtPlain", unfollowed := true, recurses := true, apart := false, narrowed := true }
def NvtPlainUptoSaid : Prop := nvtPlainUptoRow.holds Try.pinned (OpenSpec.upto nvtPlainSpec)

/-- 'linnetlaw02.NvtCut', WHERE WHAT IT READS IS OF BULK AT MOST 1048576: true; the input reads as it did. -/
def nvtCutUptoRow : OpenClaim := { program := "ytgmmdnilnmoknaa", sum := "c743aefdc0e01585f3b1e45cefdb7fde290f058f194d116703b1415f648f64a6", func := "linnet/linnetlaw02.NvtCut", spec := "nvtCut", unfollowed := true, recurses := true, apart := false, narrowed := true }
def NvtCutUptoSaid : Prop := nvtCutUptoRow.holds Try.pinned (OpenSpec.upto nvtCutSpec)

end Rows
end Go.Proofs.Ytgmmdnilnmoknaa
