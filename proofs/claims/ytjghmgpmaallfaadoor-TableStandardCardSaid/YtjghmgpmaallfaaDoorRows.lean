/-
  NARROWER THAN 'FOR EVERY INPUT', by the rows' own cells (each row's printed sentence says how): TableTells: laid · TableMeans: laid · TableWith: laid · TableFirst: laid · TableStandard: laid · TableOrder: laid.
  DERIVED. THE GIVEN ROWS OF THIS SEAT. 6 by the template 'for every input the law returns true; each argument reads behind the call as it read before'; 0 by the template 'total and deterministic' (their statements: YtjghmgpmaallfaaDoorTotals.lean).
  GIVEN WITH THE SEED: the statements are not yours to turn. If you find one false, say at which input.
  Laid BY PROGRAM, IN A SANDBOX (cutbox-rows.mjs): the forced cells as the released guide's own fill.sh prints them over the translation 59bb9ca5855c88af… (all of the seat's roots in one cut). By AI agents, Wed Nov 11 2026. No macro, syntax, notation, axiom, sorry.
-/
import Derived.Test.YtjghmgpmaallfaaDoorChecked
import GoSem.Claim
import GoSem.ClaimJoined
import GoSem.ClaimMapViews
import Derived.JoinedTies
import Derived.KernelRfl
namespace Go.Proofs.YtjghmgpmaallfaaDoor
/- THE CELL 'sum', in the pinned program and in every row, IS THE sha256 OF THE DUMP (.gsa) THAT YtjghmgpmaallfaaDoorProg.lean LOADS. Nothing in Lean hashes anything: it is a label: what it is worth is what the hold of that sum in a sandbox is worth. -/
noncomputable def Tryd.pinned : Pinned := { name := "ytjghmgpmaallfaadoor", sum := "59bb9ca5855c88af9dd9162a0ee301cac349e4423c1f8d48ead4d8e1c4cee5cd", checked := Tryd.checked }
namespace Rows
def none {H : Type} : Left H := { results := [], args := [] }

/- WHAT THE LISTED PACKAGE-LEVEL VARIABLES READ AS WHEN THE CALL BEGINS. Each datum BY PROGRAM (the guide's laid-datum.mjs) off the statement by which the dump's own 'gosem.cut.vars' lays the variable. In a bare row this is a premise. The card (YtjghmgpmaallfaaDoorCards.lean) ties it to the program's text. -/
def laid_linnet_table_standard {H : Type} : DataW H := .agg [.lit (.int .u8 0), .lit (.int .u8 0), .lit (.int .u8 0), .lit (.int .u8 3), .lit (.int .u8 15), .lit (.int .u8 20), .lit (.int .u8 0), .lit (.int .u8 28), .lit (.int .u8 4), .lit (.int .u8 26), .lit (.int .u8 127), .lit (.int .u8 21), .lit (.int .u8 23), .lit (.int .u8 18), .lit (.int .u8 22), .lit (.int .u8 17), .lit (.int .u8 19), .lit (.int .u8 0), .lit (.int .u8 0), .lit (.int .u8 2), .lit (.int .u8 6), .lit (.int .u8 25), .lit (.int .u8 24), .lit (.int .u8 1), .lit (.int .u8 5), .lit (.int .u8 9), .lit (.int .u8 16), .lit (.int .u8 8), .lit (.int .u8 14), .lit (.int .u8 29), .lit (.int .u8 11)]

/-- 'linnetlaw08.TableTells': WHATEVER THE INPUT: true; the input reads as it did. -/
def tableTellsSpec : ChangeSpec := { name := "tableTells", fn := fun _ => fun
  | [d1, d2, d3] => { results := [.lit (.bool true)], args := [d1, d2, d3] }
  | _ => none }
def tableTellsRow : OpenClaim := { program := "ytjghmgpmaallfaadoor", sum := "59bb9ca5855c88af9dd9162a0ee301cac349e4423c1f8d48ead4d8e1c4cee5cd", func := "linnet/linnetlaw08.TableTells", spec := "tableTells", named := ["linnet/table.standard"], apart := false, laid := [("linnet/table.standard", laid_linnet_table_standard)] }
def TableTellsSaid : Prop := tableTellsRow.holds Tryd.pinned (OpenSpec.ofChange tableTellsSpec)

/-- ITS FALSE NEIGHBOUR: 'it returns false'. Refute it at one input. -/
def tableTellsWrong : ChangeSpec := { name := "tableTells", fn := fun _ => fun
  | [d1, d2, d3] => { results := [.lit (.bool false)], args := [d1, d2, d3] }
  | _ => none }
def TableTellsWrongFalsely : Prop := tableTellsRow.holds Tryd.pinned (OpenSpec.ofChange tableTellsWrong)

/-- 'linnetlaw08.TableMeans': WHATEVER THE INPUT: true; the input reads as it did. -/
def tableMeansSpec : ChangeSpec := { name := "tableMeans", fn := fun _ => fun
  | [d1, d2, d3] => { results := [.lit (.bool true)], args := [d1, d2, d3] }
  | _ => none }
def tableMeansRow : OpenClaim := { program := "ytjghmgpmaallfaadoor", sum := "59bb9ca5855c88af9dd9162a0ee301cac349e4423c1f8d48ead4d8e1c4cee5cd", func := "linnet/linnetlaw08.TableMeans", spec := "tableMeans", named := ["linnet/table.standard"], apart := false, laid := [("linnet/table.standard", laid_linnet_table_standard)] }
def TableMeansSaid : Prop := tableMeansRow.holds Tryd.pinned (OpenSpec.ofChange tableMeansSpec)

/-- ITS FALSE NEIGHBOUR: 'it returns false'. Refute it at one input. -/
def tableMeansWrong : ChangeSpec := { name := "tableMeans", fn := fun _ => fun
  | [d1, d2, d3] => { results := [.lit (.bool false)], args := [d1, d2, d3] }
  | _ => none }
def TableMeansWrongFalsely : Prop := tableMeansRow.holds Tryd.pinned (OpenSpec.ofChange tableMeansWrong)

/-- 'linnetlaw08.TableWith': WHATEVER THE INPUT: true; the input reads as it did. -/
def tableWithSpec : ChangeSpec := { name := "tableWith", fn := fun _ => fun
  | [d1, d2, d3] => { results := [.lit (.bool true)], args := [d1, d2, d3] }
  | _ => none }
def tableWithRow : OpenClaim := { program := "ytjghmgpmaallfaadoor", sum := "59bb9ca5855c88af9dd9162a0ee301cac349e4423c1f8d48ead4d8e1c4cee5cd", func := "linnet/linnetlaw08.TableWith", spec := "tableWith", named := ["linnet/table.standard"], apart := false, laid := [("linnet/table.standard", laid_linnet_table_standard)] }
def TableWithSaid : Prop := tableWithRow.holds Tryd.pinned (OpenSpec.ofChange tableWithSpec)

/-- ITS FALSE NEIGHBOUR: 'it returns false'. Refute it at one input. -/
def tableWithWrong : ChangeSpec := { name := "tableWith", fn := fun _ => fun
  | [d1, d2, d3] => { results := [.lit (.bool false)], args := [d1, d2, d3] }
  | _ => none }
def TableWithWrongFalsely : Prop := tableWithRow.holds Tryd.pinned (OpenSpec.ofChange tableWithWrong)

/-- 'linnetlaw08.TableFirst': WHATEVER THE INPUT: true; the input reads as it did. -/
def tableFirstSpec : ChangeSpec := { name := "tableFirst", fn := fun _ => fun
  | [d1, d2, d3] => { results := [.lit (.bool true)], args := [d1, d2, d3] }
  | _ => none }
def tableFirstRow : OpenClaim := { program := "ytjghmgpmaallfaadoor", sum := "59bb9ca5855c88af9dd9162a0ee301cac349e4423c1f8d48ead4d8e1c4cee5cd", func := "linnet/linnetlaw08.TableFirst", spec := "tableFirst", named := ["linnet/table.standard"], apart := false, laid := [("linnet/table.standard", laid_linnet_table_standard)] }
def TableFirstSaid : Prop := tableFirstRow.holds Tryd.pinned (OpenSpec.ofChange tableFirstSpec)

/-- ITS FALSE NEIGHBOUR: 'it returns false'. Refute it at one input. -/
def tableFirstWrong : ChangeSpec := { name := "tableFirst", fn := fun _ => fun
  | [d1, d2, d3] => { results := [.lit (.bool false)], args := [d1, d2, d3] }
  | _ => none }
def TableFirstWrongFalsely : Prop := tableFirstRow.holds Tryd.pinned (OpenSpec.ofChange tableFirstWrong)

/-- 'linnetlaw08.TableStandard': WHATEVER THE INPUT: true; the input reads as it did. -/
def tableStandardSpec : ChangeSpec := { name := "tableStandard", fn := fun _ => fun
  | [d1, d2, d3] => { results := [.lit (.bool true)], args := [d1, d2, d3] }
  | _ => none }
def tableStandardRow : OpenClaim := { program := "ytjghmgpmaallfaadoor", sum := "59bb9ca5855c88af9dd9162a0ee301cac349e4423c1f8d48ead4d8e1c4cee5cd", func := "linnet/linnetlaw08.TableStandard", spec := "tableStandard", named := ["linnet/table.standard"], apart := false, laid := [("linnet/table.standard", laid_linnet_table_standard)] }
def TableStandardSaid : Prop := tableStandardRow.holds Tryd.pinned (OpenSpec.ofChange tableStandardSpec)

/-- ITS FALSE NEIGHBOUR: 'it returns false'. Refute it at one input. -/
def tableStandardWrong : ChangeSpec := { name := "tableStandard", fn := fun _ => fun
  | [d1, d2, d3] => { results := [.lit (.bool false)], args := [d1, d2, d3] }
  | _ => none }
def TableStandardWrongFalsely : Prop := tableStandardRow.holds Tryd.pinned (OpenSpec.ofChange tableStandardWrong)

/-- 'linnetlaw08.TableOrder': WHATEVER THE INPUT: true; the input reads as it did. -/
def tableOrderSpec : ChangeSpec := { name := "tableOrder", fn := fun _ => fun
  | [d1, d2, d3] => { results := [.lit (.bool true)], args := [d1, d2, d3] }
  | _ => none }
def tableOrderRow : OpenClaim := { program := "ytjghmgpmaallfaadoor", sum := "59bb9ca5855c88af9dd9162a0ee301cac349e4423c1f8d48ead4d8e1c4cee5cd", func := "linnet/linnetlaw08.TableOrder", spec := "tableOrder", named := ["linnet/table.standard"], apart := false, laid := [("linnet/table.standard", laid_linnet_table_standard)] }
def TableOrderSaid : Prop := tableOrderRow.holds Tryd.pinned (OpenSpec.ofChange tableOrderSpec)

/-- ITS FALSE NEIGHBOUR: 'it returns false'. Refute it at one input. -/
def tableOrderWrong : ChangeSpec := { name := "tableOrder", fn := fun _ => fun
  | [d1, d2, d3] => { results := [.lit (.bool false)], args := [d1, d2, d3] }
  | _ => none }
def TableOrderWrongFalsely : Prop := tableOrderRow.holds Tryd.pinned (OpenSpec.ofChange tableOrderWrong)

/- THE SECOND FORM. 'bulk': how many values and letters a reading holds, each counted each time it is reached (what is shared counts as often as it is met; a slice's spare places count too). A statement '..UptoSaid' is the law's where the arguments, and the package variables that the reading takes, are together of bulk at most 1048576: NARROWER than '..Said'. Prove '..Said' where nothing that the law and all that it calls make is longer than what came in: it says more and counts as full. Else prove '..UptoSaid'. A law counts once. -/
mutual
def uptoBulk {H : Type} : DataW H → Nat
  | .lit (.string bytes) => bytes.length + 1
  | .lit _ => 1
  | .nil => 1
  | .ptr d => uptoBulk d + 1
  | .slice elems spare => uptoBulkAll elems + uptoBulkAll spare + 1
  | .agg parts => uptoBulkAll parts + 1
  | .iface _ d => uptoBulk d + 1
  | .map entries => uptoBulkEntries entries + 1
  | .held _ => 1
def uptoBulkAll {H : Type} : List (DataW H) → Nat
  | [] => 0
  | d :: r => uptoBulk d + uptoBulkAll r
def uptoBulkEntries {H : Type} : List (Lit × DataW H) → Nat
  | [] => 0
  | x :: r => uptoBulkEntry x + uptoBulkEntries r
def uptoBulkEntry {H : Type} : Lit × DataW H → Nat
  | (.string bytes, d) => bytes.length + uptoBulk d + 1
  | (_, d) => uptoBulk d + 1
 end
def uptoSmall : (H : Type) → List (DataW H) → Bool := fun _ ds => decide (uptoBulkAll ds ≤ 1048576)
def OpenSpec.upto (s : _root_.Go.ChangeSpec) : _root_.Go.OpenSpec := { _root_.Go.OpenSpec.ofChange s with cond := some uptoSmall }

/-- 'linnetlaw08.TableTells', WHERE WHAT IT READS IS OF BULK AT MOST 1048576: true; the input reads as it did. -/
def tableTellsUptoRow : OpenClaim := { program := "ytjghmgpmaallfaadoor", sum := "59bb9ca5855c88af9dd9162a0ee301cac349e4423c1f8d48ead4d8e1c4cee5cd", func := "linnet/linnetlaw08.TableTells", spec := "tableTells", named := ["linnet/table.standard"], apart := false, laid := [("linnet/table.standard", laid_linnet_table_standard)], narrowed := true }
def TableTellsUptoSaid : Prop := tableTellsUptoRow.holds Tryd.pinned (OpenSpec.upto tableTellsSpec)

/-- 'linnetlaw08.TableMeans', WHERE WHAT IT READS IS OF BULK AT MOST 1048576: true; the input reads as it did. -/
def tableMeansUptoRow : OpenClaim := { program := "ytjghmgpmaallfaadoor", sum := "59bb9ca5855c88af9dd9162a0ee301cac349e4423c1f8d48ead4d8e1c4cee5cd", func := "linnet/linnetlaw08.TableMeans", spec := "tableMeans", named := ["linnet/table.standard"], apart := false, laid := [("linnet/table.standard", laid_linnet_table_standard)], narrowed := true }
def TableMeansUptoSaid : Prop := tableMeansUptoRow.holds Tryd.pinned (OpenSpec.upto tableMeansSpec)

/-- 'linnetlaw08.TableWith', WHERE WHAT IT READS IS OF BULK AT MOST 1048576: true; the input reads as it did. -/
def tableWithUptoRow : OpenClaim := { program := "ytjghmgpmaallfaadoor", sum := "59bb9ca5855c88af9dd9162a0ee301cac349e4423c1f8d48ead4d8e1c4cee5cd", func := "linnet/linnetlaw08.TableWith", spec := "tableWith", named := ["linnet/table.standard"], apart := false, laid := [("linnet/table.standard", laid_linnet_table_standard)], narrowed := true }
def TableWithUptoSaid : Prop := tableWithUptoRow.holds Tryd.pinned (OpenSpec.upto tableWithSpec)

/-- 'linnetlaw08.TableFirst', WHERE WHAT IT READS IS OF BULK AT MOST 1048576: true; the input reads as it did. -/
def tableFirstUptoRow : OpenClaim := { program := "ytjghmgpmaallfaadoor", sum := "59bb9ca5855c88af9dd9162a0ee301cac349e4423c1f8d48ead4d8e1c4cee5cd", func := "linnet/linnetlaw08.TableFirst", spec := "tableFirst", named := ["linnet/table.standard"], apart := false, laid := [("linnet/table.standard", laid_linnet_table_standard)], narrowed := true }
def TableFirstUptoSaid : Prop := tableFirstUptoRow.holds Tryd.pinned (OpenSpec.upto tableFirstSpec)

/-- 'linnetlaw08.TableStandard', WHERE WHAT IT READS IS OF BULK AT MOST 1048576: true; the input reads as it did. -/
def tableStandardUptoRow : OpenClaim := { program := "ytjghmgpmaallfaadoor", sum := "59bb9ca5855c88af9dd9162a0ee301cac349e4423c1f8d48ead4d8e1c4cee5cd", func := "linnet/linnetlaw08.TableStandard", spec := "tableStandard", named := ["linnet/table.standard"], apart := false, laid := [("linnet/table.standard", laid_linnet_table_standard)], narrowed := true }
def TableStandardUptoSaid : Prop := tableStandardUptoRow.holds Tryd.pinned (OpenSpec.upto tableStandardSpec)

/-- 'linnetlaw08.TableOrder', WHERE WHAT IT READS IS OF BULK AT MOST 1048576: true; the input reads as it did. -/
def tableOrderUptoRow : OpenClaim := { program := "ytjghmgpmaallfaadoor", sum := "59bb9ca5855c88af9dd9162a0ee301cac349e4423c1f8d48ead4d8e1c4cee5cd", func := "linnet/linnetlaw08.TableOrder", spec := "tableOrder", named := ["linnet/table.standard"], apart := false, laid := [("linnet/table.standard", laid_linnet_table_standard)], narrowed := true }
def TableOrderUptoSaid : Prop := tableOrderUptoRow.holds Tryd.pinned (OpenSpec.upto tableOrderSpec)

end Rows
end Go.Proofs.YtjghmgpmaallfaaDoor
