/-
  DERIVED. GIVEN WITH THE SEED: THE CARDS: each row of YtjghmgpmaallfaaDoorRows.lean that lists a variable, with what it lists TIED to the program's text (the seventh form; the later family's looks); each row that meets fmt, with fmt's text TOLD by the authors' own Lean function (tested against real Go, not proved from fmt's source: count such statements apart). THE CARD IS WHAT COUNTS. Prove the row's statement (the work); the ties are given (YtjghmgpmaallfaaDoorTie.lean); close each card by the builder's one call (the guide's Derived/Test/ToyasCard.lean, 'card_holds'). Laid BY PROGRAM, IN A SANDBOX (cutbox-door.mjs). By AI agents, Wed Nov 11 2026. No macro, syntax, notation, axiom, sorry.
-/
import Derived.Test.YtjghmgpmaallfaaDoorRows
import GoSem.ClaimSeven
namespace Go.Proofs.YtjghmgpmaallfaaDoor
namespace Rows

/-- THE TIED CARD OF 'linnetlaw08.TableTells'. -/
def tableTellsCard : Claim7 := { stood := { row := tableTellsRow, standIns := [], harness := (true, "ac39feac8685b827c624d25f9f5b6adc149471a29b0a5d6a3d49e47615ba7427"), looks := false }, kinds := [], alts := [], laidByText := true, laidKinds := [.data], laidTests := true, laidLooks := .later }
def TableTellsCardSaid : Prop := Claim7.holds Tryd.pinned (.plain (OpenSpec.ofChange tableTellsSpec)) tableTellsCard

/-- THE TIED CARD OF 'linnetlaw08.TableMeans'. -/
def tableMeansCard : Claim7 := { stood := { row := tableMeansRow, standIns := [], harness := (true, "ac39feac8685b827c624d25f9f5b6adc149471a29b0a5d6a3d49e47615ba7427"), looks := false }, kinds := [], alts := [], laidByText := true, laidKinds := [.data], laidTests := true, laidLooks := .later }
def TableMeansCardSaid : Prop := Claim7.holds Tryd.pinned (.plain (OpenSpec.ofChange tableMeansSpec)) tableMeansCard

/-- THE TIED CARD OF 'linnetlaw08.TableWith'. -/
def tableWithCard : Claim7 := { stood := { row := tableWithRow, standIns := [], harness := (true, "ac39feac8685b827c624d25f9f5b6adc149471a29b0a5d6a3d49e47615ba7427"), looks := false }, kinds := [], alts := [], laidByText := true, laidKinds := [.data], laidTests := true, laidLooks := .later }
def TableWithCardSaid : Prop := Claim7.holds Tryd.pinned (.plain (OpenSpec.ofChange tableWithSpec)) tableWithCard

/-- THE TIED CARD OF 'linnetlaw08.TableFirst'. -/
def tableFirstCard : Claim7 := { stood := { row := tableFirstRow, standIns := [], harness := (true, "ac39feac8685b827c624d25f9f5b6adc149471a29b0a5d6a3d49e47615ba7427"), looks := false }, kinds := [], alts := [], laidByText := true, laidKinds := [.data], laidTests := true, laidLooks := .later }
def TableFirstCardSaid : Prop := Claim7.holds Tryd.pinned (.plain (OpenSpec.ofChange tableFirstSpec)) tableFirstCard

/-- THE TIED CARD OF 'linnetlaw08.TableStandard'. -/
def tableStandardCard : Claim7 := { stood := { row := tableStandardRow, standIns := [], harness := (true, "ac39feac8685b827c624d25f9f5b6adc149471a29b0a5d6a3d49e47615ba7427"), looks := false }, kinds := [], alts := [], laidByText := true, laidKinds := [.data], laidTests := true, laidLooks := .later }
def TableStandardCardSaid : Prop := Claim7.holds Tryd.pinned (.plain (OpenSpec.ofChange tableStandardSpec)) tableStandardCard

/-- THE TIED CARD OF 'linnetlaw08.TableOrder'. -/
def tableOrderCard : Claim7 := { stood := { row := tableOrderRow, standIns := [], harness := (true, "ac39feac8685b827c624d25f9f5b6adc149471a29b0a5d6a3d49e47615ba7427"), looks := false }, kinds := [], alts := [], laidByText := true, laidKinds := [.data], laidTests := true, laidLooks := .later }
def TableOrderCardSaid : Prop := Claim7.holds Tryd.pinned (.plain (OpenSpec.ofChange tableOrderSpec)) tableOrderCard

/-- THE SECOND FORM's CARD OF 'linnetlaw08.TableTells'. -/
def tableTellsUptoCard : Claim7 := { stood := { row := tableTellsUptoRow, standIns := [], harness := (true, "ac39feac8685b827c624d25f9f5b6adc149471a29b0a5d6a3d49e47615ba7427"), looks := false }, kinds := [], alts := [], laidByText := true, laidKinds := [.data], laidTests := true, laidLooks := .later }
def TableTellsUptoCardSaid : Prop := Claim7.holds Tryd.pinned (.plain (OpenSpec.upto tableTellsSpec)) tableTellsUptoCard

/-- THE SECOND FORM's CARD OF 'linnetlaw08.TableMeans'. -/
def tableMeansUptoCard : Claim7 := { stood := { row := tableMeansUptoRow, standIns := [], harness := (true, "ac39feac8685b827c624d25f9f5b6adc149471a29b0a5d6a3d49e47615ba7427"), looks := false }, kinds := [], alts := [], laidByText := true, laidKinds := [.data], laidTests := true, laidLooks := .later }
def TableMeansUptoCardSaid : Prop := Claim7.holds Tryd.pinned (.plain (OpenSpec.upto tableMeansSpec)) tableMeansUptoCard

/-- THE SECOND FORM's CARD OF 'linnetlaw08.TableWith'. -/
def tableWithUptoCard : Claim7 := { stood := { row := tableWithUptoRow, standIns := [], harness := (true, "ac39feac8685b827c624d25f9f5b6adc149471a29b0a5d6a3d49e47615ba7427"), looks := false }, kinds := [], alts := [], laidByText := true, laidKinds := [.data], laidTests := true, laidLooks := .later }
def TableWithUptoCardSaid : Prop := Claim7.holds Tryd.pinned (.plain (OpenSpec.upto tableWithSpec)) tableWithUptoCard

/-- THE SECOND FORM's CARD OF 'linnetlaw08.TableFirst'. -/
def tableFirstUptoCard : Claim7 := { stood := { row := tableFirstUptoRow, standIns := [], harness := (true, "ac39feac8685b827c624d25f9f5b6adc149471a29b0a5d6a3d49e47615ba7427"), looks := false }, kinds := [], alts := [], laidByText := true, laidKinds := [.data], laidTests := true, laidLooks := .later }
def TableFirstUptoCardSaid : Prop := Claim7.holds Tryd.pinned (.plain (OpenSpec.upto tableFirstSpec)) tableFirstUptoCard

/-- THE SECOND FORM's CARD OF 'linnetlaw08.TableStandard'. -/
def tableStandardUptoCard : Claim7 := { stood := { row := tableStandardUptoRow, standIns := [], harness := (true, "ac39feac8685b827c624d25f9f5b6adc149471a29b0a5d6a3d49e47615ba7427"), looks := false }, kinds := [], alts := [], laidByText := true, laidKinds := [.data], laidTests := true, laidLooks := .later }
def TableStandardUptoCardSaid : Prop := Claim7.holds Tryd.pinned (.plain (OpenSpec.upto tableStandardSpec)) tableStandardUptoCard

/-- THE SECOND FORM's CARD OF 'linnetlaw08.TableOrder'. -/
def tableOrderUptoCard : Claim7 := { stood := { row := tableOrderUptoRow, standIns := [], harness := (true, "ac39feac8685b827c624d25f9f5b6adc149471a29b0a5d6a3d49e47615ba7427"), looks := false }, kinds := [], alts := [], laidByText := true, laidKinds := [.data], laidTests := true, laidLooks := .later }
def TableOrderUptoCardSaid : Prop := Claim7.holds Tryd.pinned (.plain (OpenSpec.upto tableOrderSpec)) tableOrderUptoCard
end Rows
end Go.Proofs.YtjghmgpmaallfaaDoor
