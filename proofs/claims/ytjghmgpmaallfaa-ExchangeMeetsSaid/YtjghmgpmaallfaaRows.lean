/-
  No cell of these rows narrows 'for every input' (looked for: loops, veiled, ifaces, maps, wideKeys, modest, calm, conditions, laid).
  DERIVED. THE GIVEN ROWS OF THIS SEAT. 12 by the template 'for every input the law returns true; each argument reads behind the call as it read before'; 0 by the template 'total and deterministic' (their statements: YtjghmgpmaallfaaTotals.lean).
  GIVEN WITH THE SEED: the statements are not yours to turn. If you find one false, say at which input.
  Laid BY PROGRAM, IN A SANDBOX (cutbox-rows.mjs): the forced cells as the released guide's own fill.sh prints them over the translation d25ed26410845d09… (all of the seat's roots in one cut). By AI agents, Wed Nov 11 2026. No macro, syntax, notation, axiom, sorry.
-/
import Derived.Test.YtjghmgpmaallfaaChecked
import GoSem.Claim
import GoSem.ClaimJoined
import GoSem.ClaimMapViews
import Derived.JoinedTies
import Derived.KernelRfl
namespace Go.Proofs.Ytjghmgpmaallfaa
/- THE CELL 'sum', in the pinned program and in every row, IS THE sha256 OF THE DUMP (.gsa) THAT YtjghmgpmaallfaaProg.lean LOADS. Nothing in Lean hashes anything: it is a label: what it is worth is what the hold of that sum in a sandbox is worth. -/
noncomputable def Try.pinned : Pinned := { name := "ytjghmgpmaallfaa", sum := "d25ed26410845d098537161daf7f43ba7eccf1fac1b8108cc662224867bc5db0", checked := Try.checked }
namespace Rows
def none {H : Type} : Left H := { results := [], args := [] }

/-- 'linnetlaw09.AgreeBoth': WHATEVER THE INPUT: true; the input reads as it did. -/
def agreeBothSpec : ChangeSpec := { name := "agreeBoth", fn := fun _ => fun
  | [d1, d2, d3] => { results := [.lit (.bool true)], args := [d1, d2, d3] }
  | _ => none }
def agreeBothRow : OpenClaim := { program := "ytjghmgpmaallfaa", sum := "d25ed26410845d098537161daf7f43ba7eccf1fac1b8108cc662224867bc5db0", func := "linnet/linnetlaw09.AgreeBoth", spec := "agreeBoth", apart := false }
def AgreeBothSaid : Prop := agreeBothRow.holds Try.pinned (OpenSpec.ofChange agreeBothSpec)

/-- ITS FALSE NEIGHBOUR: 'it returns false'. Refute it at one input. -/
def agreeBothWrong : ChangeSpec := { name := "agreeBoth", fn := fun _ => fun
  | [d1, d2, d3] => { results := [.lit (.bool false)], args := [d1, d2, d3] }
  | _ => none }
def AgreeBothWrongFalsely : Prop := agreeBothRow.holds Try.pinned (OpenSpec.ofChange agreeBothWrong)

/-- 'linnetlaw09.AgreeNone': WHATEVER THE INPUT: true; the input reads as it did. -/
def agreeNoneSpec : ChangeSpec := { name := "agreeNone", fn := fun _ => fun
  | [d1, d2] => { results := [.lit (.bool true)], args := [d1, d2] }
  | _ => none }
def agreeNoneRow : OpenClaim := { program := "ytjghmgpmaallfaa", sum := "d25ed26410845d098537161daf7f43ba7eccf1fac1b8108cc662224867bc5db0", func := "linnet/linnetlaw09.AgreeNone", spec := "agreeNone", apart := false }
def AgreeNoneSaid : Prop := agreeNoneRow.holds Try.pinned (OpenSpec.ofChange agreeNoneSpec)

/-- ITS FALSE NEIGHBOUR: 'it returns false'. Refute it at one input. -/
def agreeNoneWrong : ChangeSpec := { name := "agreeNone", fn := fun _ => fun
  | [d1, d2] => { results := [.lit (.bool false)], args := [d1, d2] }
  | _ => none }
def AgreeNoneWrongFalsely : Prop := agreeNoneRow.holds Try.pinned (OpenSpec.ofChange agreeNoneWrong)

/-- 'linnetlaw09.AgreeStays': WHATEVER THE INPUT: true; the input reads as it did. -/
def agreeStaysSpec : ChangeSpec := { name := "agreeStays", fn := fun _ => fun
  | [d1, d2] => { results := [.lit (.bool true)], args := [d1, d2] }
  | _ => none }
def agreeStaysRow : OpenClaim := { program := "ytjghmgpmaallfaa", sum := "d25ed26410845d098537161daf7f43ba7eccf1fac1b8108cc662224867bc5db0", func := "linnet/linnetlaw09.AgreeStays", spec := "agreeStays", apart := false }
def AgreeStaysSaid : Prop := agreeStaysRow.holds Try.pinned (OpenSpec.ofChange agreeStaysSpec)

/-- ITS FALSE NEIGHBOUR: 'it returns false'. Refute it at one input. -/
def agreeStaysWrong : ChangeSpec := { name := "agreeStays", fn := fun _ => fun
  | [d1, d2] => { results := [.lit (.bool false)], args := [d1, d2] }
  | _ => none }
def AgreeStaysWrongFalsely : Prop := agreeStaysRow.holds Try.pinned (OpenSpec.ofChange agreeStaysWrong)

/-- 'linnetlaw09.AgreeLowers': WHATEVER THE INPUT: true; the input reads as it did. -/
def agreeLowersSpec : ChangeSpec := { name := "agreeLowers", fn := fun _ => fun
  | [d1, d2, d3] => { results := [.lit (.bool true)], args := [d1, d2, d3] }
  | _ => none }
def agreeLowersRow : OpenClaim := { program := "ytjghmgpmaallfaa", sum := "d25ed26410845d098537161daf7f43ba7eccf1fac1b8108cc662224867bc5db0", func := "linnet/linnetlaw09.AgreeLowers", spec := "agreeLowers", apart := false }
def AgreeLowersSaid : Prop := agreeLowersRow.holds Try.pinned (OpenSpec.ofChange agreeLowersSpec)

/-- ITS FALSE NEIGHBOUR: 'it returns false'. Refute it at one input. -/
def agreeLowersWrong : ChangeSpec := { name := "agreeLowers", fn := fun _ => fun
  | [d1, d2, d3] => { results := [.lit (.bool false)], args := [d1, d2, d3] }
  | _ => none }
def AgreeLowersWrongFalsely : Prop := agreeLowersRow.holds Try.pinned (OpenSpec.ofChange agreeLowersWrong)

/-- 'linnetlaw09.AgreeTable': WHATEVER THE INPUT: true; the input reads as it did. -/
def agreeTableSpec : ChangeSpec := { name := "agreeTable", fn := fun _ => fun
  | [d1, d2] => { results := [.lit (.bool true)], args := [d1, d2] }
  | _ => none }
def agreeTableRow : OpenClaim := { program := "ytjghmgpmaallfaa", sum := "d25ed26410845d098537161daf7f43ba7eccf1fac1b8108cc662224867bc5db0", func := "linnet/linnetlaw09.AgreeTable", spec := "agreeTable", apart := false }
def AgreeTableSaid : Prop := agreeTableRow.holds Try.pinned (OpenSpec.ofChange agreeTableSpec)

/-- ITS FALSE NEIGHBOUR: 'it returns false'. Refute it at one input. -/
def agreeTableWrong : ChangeSpec := { name := "agreeTable", fn := fun _ => fun
  | [d1, d2] => { results := [.lit (.bool false)], args := [d1, d2] }
  | _ => none }
def AgreeTableWrongFalsely : Prop := agreeTableRow.holds Try.pinned (OpenSpec.ofChange agreeTableWrong)

/-- 'linnetlaw09.AgreeTells': WHATEVER THE INPUT: true; the input reads as it did. -/
def agreeTellsSpec : ChangeSpec := { name := "agreeTells", fn := fun _ => fun
  | [d1, d2, d3] => { results := [.lit (.bool true)], args := [d1, d2, d3] }
  | _ => none }
def agreeTellsRow : OpenClaim := { program := "ytjghmgpmaallfaa", sum := "d25ed26410845d098537161daf7f43ba7eccf1fac1b8108cc662224867bc5db0", func := "linnet/linnetlaw09.AgreeTells", spec := "agreeTells", apart := false }
def AgreeTellsSaid : Prop := agreeTellsRow.holds Try.pinned (OpenSpec.ofChange agreeTellsSpec)

/-- ITS FALSE NEIGHBOUR: 'it returns false'. Refute it at one input. -/
def agreeTellsWrong : ChangeSpec := { name := "agreeTells", fn := fun _ => fun
  | [d1, d2, d3] => { results := [.lit (.bool false)], args := [d1, d2, d3] }
  | _ => none }
def AgreeTellsWrongFalsely : Prop := agreeTellsRow.holds Try.pinned (OpenSpec.ofChange agreeTellsWrong)

/-- 'linnetlaw17.ExchangeOne': WHATEVER THE INPUT: true; the input reads as it did. -/
def exchangeOneSpec : ChangeSpec := { name := "exchangeOne", fn := fun _ => fun
  | [d1, d2] => { results := [.lit (.bool true)], args := [d1, d2] }
  | _ => none }
def exchangeOneRow : OpenClaim := { program := "ytjghmgpmaallfaa", sum := "d25ed26410845d098537161daf7f43ba7eccf1fac1b8108cc662224867bc5db0", func := "linnet/linnetlaw17.ExchangeOne", spec := "exchangeOne", unfollowed := true, recurses := true, apart := false }
def ExchangeOneSaid : Prop := exchangeOneRow.holds Try.pinned (OpenSpec.ofChange exchangeOneSpec)

/-- ITS FALSE NEIGHBOUR: 'it returns false'. Refute it at one input. -/
def exchangeOneWrong : ChangeSpec := { name := "exchangeOne", fn := fun _ => fun
  | [d1, d2] => { results := [.lit (.bool false)], args := [d1, d2] }
  | _ => none }
def ExchangeOneWrongFalsely : Prop := exchangeOneRow.holds Try.pinned (OpenSpec.ofChange exchangeOneWrong)

/-- 'linnetlaw17.ExchangeAsks': WHATEVER THE INPUT: true; the input reads as it did. -/
def exchangeAsksSpec : ChangeSpec := { name := "exchangeAsks", fn := fun _ => fun
  | [d1, d2, d3] => { results := [.lit (.bool true)], args := [d1, d2, d3] }
  | _ => none }
def exchangeAsksRow : OpenClaim := { program := "ytjghmgpmaallfaa", sum := "d25ed26410845d098537161daf7f43ba7eccf1fac1b8108cc662224867bc5db0", func := "linnet/linnetlaw17.ExchangeAsks", spec := "exchangeAsks", unfollowed := true, recurses := true, apart := false }
def ExchangeAsksSaid : Prop := exchangeAsksRow.holds Try.pinned (OpenSpec.ofChange exchangeAsksSpec)

/-- ITS FALSE NEIGHBOUR: 'it returns false'. Refute it at one input. -/
def exchangeAsksWrong : ChangeSpec := { name := "exchangeAsks", fn := fun _ => fun
  | [d1, d2, d3] => { results := [.lit (.bool false)], args := [d1, d2, d3] }
  | _ => none }
def ExchangeAsksWrongFalsely : Prop := exchangeAsksRow.holds Try.pinned (OpenSpec.ofChange exchangeAsksWrong)

/-- 'linnetlaw17.ExchangeHears': WHATEVER THE INPUT: true; the input reads as it did. -/
def exchangeHearsSpec : ChangeSpec := { name := "exchangeHears", fn := fun _ => fun
  | [d1, d2] => { results := [.lit (.bool true)], args := [d1, d2] }
  | _ => none }
def exchangeHearsRow : OpenClaim := { program := "ytjghmgpmaallfaa", sum := "d25ed26410845d098537161daf7f43ba7eccf1fac1b8108cc662224867bc5db0", func := "linnet/linnetlaw17.ExchangeHears", spec := "exchangeHears", unfollowed := true, recurses := true, apart := false }
def ExchangeHearsSaid : Prop := exchangeHearsRow.holds Try.pinned (OpenSpec.ofChange exchangeHearsSpec)

/-- ITS FALSE NEIGHBOUR: 'it returns false'. Refute it at one input. -/
def exchangeHearsWrong : ChangeSpec := { name := "exchangeHears", fn := fun _ => fun
  | [d1, d2] => { results := [.lit (.bool false)], args := [d1, d2] }
  | _ => none }
def ExchangeHearsWrongFalsely : Prop := exchangeHearsRow.holds Try.pinned (OpenSpec.ofChange exchangeHearsWrong)

/-- 'linnetlaw17.ExchangeTells': WHATEVER THE INPUT: true; the input reads as it did. -/
def exchangeTellsSpec : ChangeSpec := { name := "exchangeTells", fn := fun _ => fun
  | [d1, d2] => { results := [.lit (.bool true)], args := [d1, d2] }
  | _ => none }
def exchangeTellsRow : OpenClaim := { program := "ytjghmgpmaallfaa", sum := "d25ed26410845d098537161daf7f43ba7eccf1fac1b8108cc662224867bc5db0", func := "linnet/linnetlaw17.ExchangeTells", spec := "exchangeTells", unfollowed := true, recurses := true, apart := false }
def ExchangeTellsSaid : Prop := exchangeTellsRow.holds Try.pinned (OpenSpec.ofChange exchangeTellsSpec)

/-- ITS FALSE NEIGHBOUR: 'it returns false'. Refute it at one input. -/
def exchangeTellsWrong : ChangeSpec := { name := "exchangeTells", fn := fun _ => fun
  | [d1, d2] => { results := [.lit (.bool false)], args := [d1, d2] }
  | _ => none }
def ExchangeTellsWrongFalsely : Prop := exchangeTellsRow.holds Try.pinned (OpenSpec.ofChange exchangeTellsWrong)

/-- 'linnetlaw17.ExchangeMeets': WHATEVER THE INPUT: true; the input reads as it did. -/
def exchangeMeetsSpec : ChangeSpec := { name := "exchangeMeets", fn := fun _ => fun
  | [d] => { results := [.lit (.bool true)], args := [d] }
  | _ => none }
def exchangeMeetsRow : OpenClaim := { program := "ytjghmgpmaallfaa", sum := "d25ed26410845d098537161daf7f43ba7eccf1fac1b8108cc662224867bc5db0", func := "linnet/linnetlaw17.ExchangeMeets", spec := "exchangeMeets", unfollowed := true, recurses := true, apart := false }
def ExchangeMeetsSaid : Prop := exchangeMeetsRow.holds Try.pinned (OpenSpec.ofChange exchangeMeetsSpec)

/-- ITS FALSE NEIGHBOUR: 'it returns false'. Refute it at one input. -/
def exchangeMeetsWrong : ChangeSpec := { name := "exchangeMeets", fn := fun _ => fun
  | [d] => { results := [.lit (.bool false)], args := [d] }
  | _ => none }
def ExchangeMeetsWrongFalsely : Prop := exchangeMeetsRow.holds Try.pinned (OpenSpec.ofChange exchangeMeetsWrong)

/-- 'linnetlaw17.ExchangeWhole': WHATEVER THE INPUT: true; the input reads as it did. -/
def exchangeWholeSpec : ChangeSpec := { name := "exchangeWhole", fn := fun _ => fun
  | [d1, d2] => { results := [.lit (.bool true)], args := [d1, d2] }
  | _ => none }
def exchangeWholeRow : OpenClaim := { program := "ytjghmgpmaallfaa", sum := "d25ed26410845d098537161daf7f43ba7eccf1fac1b8108cc662224867bc5db0", func := "linnet/linnetlaw17.ExchangeWhole", spec := "exchangeWhole", unfollowed := true, recurses := true, apart := false }
def ExchangeWholeSaid : Prop := exchangeWholeRow.holds Try.pinned (OpenSpec.ofChange exchangeWholeSpec)

/-- ITS FALSE NEIGHBOUR: 'it returns false'. Refute it at one input. -/
def exchangeWholeWrong : ChangeSpec := { name := "exchangeWhole", fn := fun _ => fun
  | [d1, d2] => { results := [.lit (.bool false)], args := [d1, d2] }
  | _ => none }
def ExchangeWholeWrongFalsely : Prop := exchangeWholeRow.holds Try.pinned (OpenSpec.ofChange exchangeWholeWrong)

/- THE SECOND FORM. 'bulk': how many values and letters a reading holds, each counted each time it is reached (what is shared counts as often as it is met; a slice's spare places count too). A statement '..UptoSaid' is the law's where the arguments, and the package variables that the reading takes, are together of bulk at most 1048576: NARROWER than '..Said'. Prove '..Said' where nothing that the law and all that it calls make is longer than what came in: it says more and counts as full. Else prove '..UptoSaid'. A law counts once. -/
mutual
def uptoBulk {H : Type} : DataW H → Nat
  | .lit (.string bytes) => bytes.length + 1
  | .lit _ => 1
  | .nil => 1
  | .ptr d => uptoBulk d + 1
  | .slice elems spare => uptoBulkAll elems + uptoBulkAll spare + 1
  | .agg parts => uptoBulkAll parts + 1
  | .iface _ d => uptoBulk d + 1
  | .map entries => uptoBulkEntries entries + 1
  | .held _ => 1
def uptoBulkAll {H : Type} : List (DataW H) → Nat
  | [] => 0
  | d :: r => uptoBulk d + uptoBulkAll r
def uptoBulkEntries {H : Type} : List (Lit × DataW H) → Nat
  | [] => 0
  | x :: r => uptoBulkEntry x + uptoBulkEntries r
def uptoBulkEntry {H : Type} : Lit × DataW H → Nat
  | (.string bytes, d) => bytes.length + uptoBulk d + 1
  | (_, d) => uptoBulk d + 1
 end
def uptoSmall : (H : Type) → List (DataW H) → Bool := fun _ ds => decide (uptoBulkAll ds ≤ 1048576)
def OpenSpec.upto (s : _root_.Go.ChangeSpec) : _root_.Go.OpenSpec := { _root_.Go.OpenSpec.ofChange s with cond := some uptoSmall }

/-- 'linnetlaw09.AgreeBoth', WHERE WHAT IT READS IS OF BULK AT MOST 1048576: true; the input reads as it did. -/
def agreeBothUptoRow : OpenClaim := { program := "ytjghmgpmaallfaa", sum := "d25ed26410845d098537161daf7f43ba7eccf1fac1b8108cc662224867bc5db0", func := "linnet/linnetlaw09.AgreeBoth", spec := "agreeBoth", apart := false, narrowed := true }
def AgreeBothUptoSaid : Prop := agreeBothUptoRow.holds Try.pinned (OpenSpec.upto agreeBothSpec)

/-- 'linnetlaw09.AgreeNone', WHERE WHAT IT READS IS OF BULK AT MOST 1048576: true; the input reads as it did. -/
def agreeNoneUptoRow : OpenClaim := { program := "ytjghmgpmaallfaa", sum := "d25ed26410845d098537161daf7f43ba7eccf1fac1b8108cc662224867bc5db0", func := "linnet/linnetlaw09.AgreeNone", spec := "agreeNone", apart := false, narrowed := true }
def AgreeNoneUptoSaid : Prop := agreeNoneUptoRow.holds Try.pinned (OpenSpec.upto agreeNoneSpec)

/-- 'linnetlaw09.AgreeStays', WHERE WHAT IT READS IS OF BULK AT MOST 1048576: true; the input reads as it did. -/
def agreeStaysUptoRow : OpenClaim := { program := "ytjghmgpmaallfaa", sum := "d25ed26410845d098537161daf7f43ba7eccf1fac1b8108cc662224867bc5db0", func := "linnet/linnetlaw09.AgreeStays", spec := "agreeStays", apart := false, narrowed := true }
def AgreeStaysUptoSaid : Prop := agreeStaysUptoRow.holds Try.pinned (OpenSpec.upto agreeStaysSpec)

/-- 'linnetlaw09.AgreeLowers', WHERE WHAT IT READS IS OF BULK AT MOST 1048576: true; the input reads as it did. -/
def agreeLowersUptoRow : OpenClaim := { program := "ytjghmgpmaallfaa", sum := "d25ed26410845d098537161daf7f43ba7eccf1fac1b8108cc662224867bc5db0", func := "linnet/linnetlaw09.AgreeLowers", spec := "agreeLowers", apart := false, narrowed := true }
def AgreeLowersUptoSaid : Prop := agreeLowersUptoRow.holds Try.pinned (OpenSpec.upto agreeLowersSpec)

/-- 'linnetlaw09.AgreeTable', WHERE WHAT IT READS IS OF BULK AT MOST 1048576: true; the input reads as it did. -/
def agreeTableUptoRow : OpenClaim := { program := "ytjghmgpmaallfaa", sum := "d25ed26410845d098537161daf7f43ba7eccf1fac1b8108cc662224867bc5db0", func := "linnet/linnetlaw09.AgreeTable", spec := "agreeTable", apart := false, narrowed := true }
def AgreeTableUptoSaid : Prop := agreeTableUptoRow.holds Try.pinned (OpenSpec.upto agreeTableSpec)

/-- 'linnetlaw09.AgreeTells', WHERE WHAT IT READS IS OF BULK AT MOST 1048576: true; the input reads as it did. -/
def agreeTellsUptoRow : OpenClaim := { program := "ytjghmgpmaallfaa", sum := "d25ed26410845d098537161daf7f43ba7eccf1fac1b8108cc662224867bc5db0", func := "linnet/linnetlaw09.AgreeTells", spec := "agreeTells", apart := false, narrowed := true }
def AgreeTellsUptoSaid : Prop := agreeTellsUptoRow.holds Try.pinned (OpenSpec.upto agreeTellsSpec)

/-- 'linnetlaw17.ExchangeOne', WHERE WHAT IT READS IS OF BULK AT MOST 1048576: true; the input reads as it did. -/
def exchangeOneUptoRow : OpenClaim := { program := "ytjghmgpmaallfaa", sum := "d25ed26410845d098537161daf7f43ba7eccf1fac1b8108cc662224867bc5db0", func := "linnet/linnetlaw17.ExchangeOne", spec := "exchangeOne", unfollowed := true, recurses := true, apart := false, narrowed := true }
def ExchangeOneUptoSaid : Prop := exchangeOneUptoRow.holds Try.pinned (OpenSpec.upto exchangeOneSpec)

/-- 'linnetlaw17.ExchangeAsks', WHERE WHAT IT READS IS OF BULK AT MOST 1048576: true; the input reads as it did. -/
def exchangeAsksUptoRow : OpenClaim := { program := "ytjghmgpmaallfaa", sum := "d25ed26410845d098537161daf7f43ba7eccf1fac1b8108cc662224867bc5db0", func := "linnet/linnetlaw17.ExchangeAsks", spec := "exchangeAsks", unfollowed := true, recurses := true, apart := false, narrowed := true }
def ExchangeAsksUptoSaid : Prop := exchangeAsksUptoRow.holds Try.pinned (OpenSpec.upto exchangeAsksSpec)

/-- 'linnetlaw17.ExchangeHears', WHERE WHAT IT READS IS OF BULK AT MOST 1048576: true; the input reads as it did. -/
def exchangeHearsUptoRow : OpenClaim := { program := "ytjghmgpmaallfaa", sum := "d25ed26410845d098537161daf7f43ba7eccf1fac1b8108cc662224867bc5db0", func := "linnet/linnetlaw17.ExchangeHears", spec := "exchangeHears", unfollowed := true, recurses := true, apart := false, narrowed := true }
def ExchangeHearsUptoSaid : Prop := exchangeHearsUptoRow.holds Try.pinned (OpenSpec.upto exchangeHearsSpec)

/-- 'linnetlaw17.ExchangeTells', WHERE WHAT IT READS IS OF BULK AT MOST 1048576: true; the input reads as it did. -/
def exchangeTellsUptoRow : OpenClaim := { program := "ytjghmgpmaallfaa", sum := "d25ed26410845d098537161daf7f43ba7eccf1fac1b8108cc662224867bc5db0", func := "linnet/linnetlaw17.ExchangeTells", spec := "exchangeTells", unfollowed := true, recurses := true, apart := false, narrowed := true }
def ExchangeTellsUptoSaid : Prop := exchangeTellsUptoRow.holds Try.pinned (OpenSpec.upto exchangeTellsSpec)

/-- 'linnetlaw17.ExchangeMeets', WHERE WHAT IT READS IS OF BULK AT MOST 1048576: true; the input reads as it did. -/
def exchangeMeetsUptoRow : OpenClaim := { program := "ytjghmgpmaallfaa", sum := "d25ed26410845d098537161daf7f43ba7eccf1fac1b8108cc662224867bc5db0", func := "linnet/linnetlaw17.ExchangeMeets", spec := "exchangeMeets", unfollowed := true, recurses := true, apart := false, narrowed := true }
def ExchangeMeetsUptoSaid : Prop := exchangeMeetsUptoRow.holds Try.pinned (OpenSpec.upto exchangeMeetsSpec)

/-- 'linnetlaw17.ExchangeWhole', WHERE WHAT IT READS IS OF BULK AT MOST 1048576: true; the input reads as it did. -/
def exchangeWholeUptoRow : OpenClaim := { program := "ytjghmgpmaallfaa", sum := "d25ed26410845d098537161daf7f43ba7eccf1fac1b8108cc662224867bc5db0", func := "linnet/linnetlaw17.ExchangeWhole", spec := "exchangeWhole", unfollowed := true, recurses := true, apart := false, narrowed := true }
def ExchangeWholeUptoSaid : Prop := exchangeWholeUptoRow.holds Try.pinned (OpenSpec.upto exchangeWholeSpec)

end Rows
end Go.Proofs.Ytjghmgpmaallfaa
