/-
  DERIVED. GIVEN WITH THE SEED: THE CARDS: each row of YtpigkgnmegpddaaDoorRows.lean that lists a variable, with what it lists TIED to the program's text (the seventh form; the later family's looks); each row that meets fmt, with fmt's text TOLD by the authors' own Lean function (tested against real Go, not proved from fmt's source: count such statements apart). THE CARD IS WHAT COUNTS. Prove the row's statement (the work); the ties are given (YtpigkgnmegpddaaDoorTie.lean); close each card by the builder's one call (the guide's Derived/Test/ToyasCard.lean, 'card_holds'). Laid BY PROGRAM, IN A SANDBOX (cutbox-door.mjs). By AI agents, Wed Nov 11 2026. No macro, syntax, notation, axiom, sorry.
-/
import Derived.Test.YtpigkgnmegpddaaDoorRows
import GoSem.ClaimSeven
namespace Go.Proofs.YtpigkgnmegpddaaDoor
namespace Rows

/-- THE TIED CARD OF 'tiltyardlaw02.ShaSteps'. -/
def shaStepsCard : Claim7 := { stood := { row := shaStepsRow, standIns := [], harness := (true, "9785646b697d097c1519471425dcbcca611b7965c2432207c009d10c3f74ff78"), looks := false }, kinds := [], alts := [], laidByText := true, laidKinds := [.data, .data], laidTests := true, laidLooks := .later }
def ShaStepsCardSaid : Prop := Claim7.holds Tryd.pinned (.plain (OpenSpec.ofChange shaStepsSpec)) shaStepsCard

/-- THE TIED CARD OF 'tiltyardlaw02.ShaSums'. -/
def shaSumsCard : Claim7 := { stood := { row := shaSumsRow, standIns := [], harness := (true, "9785646b697d097c1519471425dcbcca611b7965c2432207c009d10c3f74ff78"), looks := false }, kinds := [], alts := [], laidByText := true, laidKinds := [.data, .data], laidTests := true, laidLooks := .later }
def ShaSumsCardSaid : Prop := Claim7.holds Tryd.pinned (.plain (OpenSpec.ofChange shaSumsSpec)) shaSumsCard

/-- THE TIED CARD OF 'tiltyardlaw02.ShaParts'. -/
def shaPartsCard : Claim7 := { stood := { row := shaPartsRow, standIns := [], harness := (true, "9785646b697d097c1519471425dcbcca611b7965c2432207c009d10c3f74ff78"), looks := false }, kinds := [], alts := [], laidByText := true, laidKinds := [.data, .data], laidTests := true, laidLooks := .later }
def ShaPartsCardSaid : Prop := Claim7.holds Tryd.pinned (.plain (OpenSpec.ofChange shaPartsSpec)) shaPartsCard

/-- THE TIED CARD OF 'tiltyardlaw02.ShaKept'. -/
def shaKeptCard : Claim7 := { stood := { row := shaKeptRow, standIns := [], harness := (true, "9785646b697d097c1519471425dcbcca611b7965c2432207c009d10c3f74ff78"), looks := false }, kinds := [], alts := [], laidByText := true, laidKinds := [.data, .data], laidTests := true, laidLooks := .later }
def ShaKeptCardSaid : Prop := Claim7.holds Tryd.pinned (.plain (OpenSpec.ofChange shaKeptSpec)) shaKeptCard

/-- THE TIED CARD OF 'tiltyardlaw02.ShaChain'. -/
def shaChainCard : Claim7 := { stood := { row := shaChainRow, standIns := [], harness := (true, "9785646b697d097c1519471425dcbcca611b7965c2432207c009d10c3f74ff78"), looks := false }, kinds := [], alts := [], laidByText := true, laidKinds := [.data, .data], laidTests := true, laidLooks := .later }
def ShaChainCardSaid : Prop := Claim7.holds Tryd.pinned (.plain (OpenSpec.ofChange shaChainSpec)) shaChainCard

/-- THE TIED CARD OF 'tiltyardlaw03.MacTags'. -/
def macTagsCard : Claim7 := { stood := { row := macTagsRow, standIns := [], harness := (true, "9785646b697d097c1519471425dcbcca611b7965c2432207c009d10c3f74ff78"), looks := false }, kinds := [], alts := [], laidByText := true, laidKinds := [.data, .data], laidTests := true, laidLooks := .later }
def MacTagsCardSaid : Prop := Claim7.holds Tryd.pinned (.plain (OpenSpec.ofChange macTagsSpec)) macTagsCard

/-- THE TIED CARD OF 'tiltyardlaw03.MacMade'. -/
def macMadeCard : Claim7 := { stood := { row := macMadeRow, standIns := [], harness := (true, "9785646b697d097c1519471425dcbcca611b7965c2432207c009d10c3f74ff78"), looks := false }, kinds := [], alts := [], laidByText := true, laidKinds := [.data, .data], laidTests := true, laidLooks := .later }
def MacMadeCardSaid : Prop := Claim7.holds Tryd.pinned (.plain (OpenSpec.ofChange macMadeSpec)) macMadeCard

/-- THE TIED CARD OF 'tiltyardlaw03.MacKeys'. -/
def macKeysCard : Claim7 := { stood := { row := macKeysRow, standIns := [], harness := (true, "9785646b697d097c1519471425dcbcca611b7965c2432207c009d10c3f74ff78"), looks := false }, kinds := [], alts := [], laidByText := true, laidKinds := [.data, .data], laidTests := true, laidLooks := .later }
def MacKeysCardSaid : Prop := Claim7.holds Tryd.pinned (.plain (OpenSpec.ofChange macKeysSpec)) macKeysCard

/-- THE TIED CARD OF 'tiltyardlaw03.MacKept'. -/
def macKeptCard : Claim7 := { stood := { row := macKeptRow, standIns := [], harness := (true, "9785646b697d097c1519471425dcbcca611b7965c2432207c009d10c3f74ff78"), looks := false }, kinds := [], alts := [], laidByText := true, laidKinds := [.data, .data], laidTests := true, laidLooks := .later }
def MacKeptCardSaid : Prop := Claim7.holds Tryd.pinned (.plain (OpenSpec.ofChange macKeptSpec)) macKeptCard

/-- THE TIED CARD OF 'tiltyardlaw03.MacFits'. -/
def macFitsCard : Claim7 := { stood := { row := macFitsRow, standIns := [], harness := (true, "9785646b697d097c1519471425dcbcca611b7965c2432207c009d10c3f74ff78"), looks := false }, kinds := [], alts := [], laidByText := true, laidKinds := [.data, .data], laidTests := true, laidLooks := .later }
def MacFitsCardSaid : Prop := Claim7.holds Tryd.pinned (.plain (OpenSpec.ofChange macFitsSpec)) macFitsCard

/-- THE TIED CARD OF 'tiltyardlaw03.MacOwn'. -/
def macOwnCard : Claim7 := { stood := { row := macOwnRow, standIns := [], harness := (true, "9785646b697d097c1519471425dcbcca611b7965c2432207c009d10c3f74ff78"), looks := false }, kinds := [], alts := [], laidByText := true, laidKinds := [.data, .data], laidTests := true, laidLooks := .later }
def MacOwnCardSaid : Prop := Claim7.holds Tryd.pinned (.plain (OpenSpec.ofChange macOwnSpec)) macOwnCard

/-- THE TIED CARD OF 'tiltyardlaw06.PassSeals'. -/
def passSealsCard : Claim7 := { stood := { row := passSealsRow, standIns := [], harness := (true, "9785646b697d097c1519471425dcbcca611b7965c2432207c009d10c3f74ff78"), looks := false }, kinds := [], alts := [], laidByText := true, laidKinds := [.data, .data], laidTests := true, laidLooks := .later }
def PassSealsCardSaid : Prop := Claim7.holds Tryd.pinned (.plain (OpenSpec.ofChange passSealsSpec)) passSealsCard

/-- THE TIED CARD OF 'tiltyardlaw06.PassOld'. -/
def passOldCard : Claim7 := { stood := { row := passOldRow, standIns := [], harness := (true, "9785646b697d097c1519471425dcbcca611b7965c2432207c009d10c3f74ff78"), looks := false }, kinds := [], alts := [], laidByText := true, laidKinds := [.data, .data], laidTests := true, laidLooks := .later }
def PassOldCardSaid : Prop := Claim7.holds Tryd.pinned (.plain (OpenSpec.ofChange passOldSpec)) passOldCard

/-- THE TIED CARD OF 'tiltyardlaw06.PassTickets'. -/
def passTicketsCard : Claim7 := { stood := { row := passTicketsRow, standIns := [], harness := (true, "9785646b697d097c1519471425dcbcca611b7965c2432207c009d10c3f74ff78"), looks := false }, kinds := [], alts := [], laidByText := true, laidKinds := [.data, .data], laidTests := true, laidLooks := .later }
def PassTicketsCardSaid : Prop := Claim7.holds Tryd.pinned (.plain (OpenSpec.ofChange passTicketsSpec)) passTicketsCard

/-- THE TIED CARD OF 'tiltyardlaw06.PassTokens'. -/
def passTokensCard : Claim7 := { stood := { row := passTokensRow, standIns := [], harness := (true, "9785646b697d097c1519471425dcbcca611b7965c2432207c009d10c3f74ff78"), looks := false }, kinds := [], alts := [], laidByText := true, laidKinds := [.data, .data], laidTests := true, laidLooks := .later }
def PassTokensCardSaid : Prop := Claim7.holds Tryd.pinned (.plain (OpenSpec.ofChange passTokensSpec)) passTokensCard

/-- THE TIED CARD OF 'tiltyardlaw06.PassOthers'. -/
def passOthersCard : Claim7 := { stood := { row := passOthersRow, standIns := [], harness := (true, "9785646b697d097c1519471425dcbcca611b7965c2432207c009d10c3f74ff78"), looks := false }, kinds := [], alts := [], laidByText := true, laidKinds := [.data, .data], laidTests := true, laidLooks := .later }
def PassOthersCardSaid : Prop := Claim7.holds Tryd.pinned (.plain (OpenSpec.ofChange passOthersSpec)) passOthersCard

/-- THE TIED CARD OF 'tiltyardlaw06.PassBack'. -/
def passBackCard : Claim7 := { stood := { row := passBackRow, standIns := [], harness := (true, "9785646b697d097c1519471425dcbcca611b7965c2432207c009d10c3f74ff78"), looks := false }, kinds := [], alts := [], laidByText := true, laidKinds := [.data, .data], laidTests := true, laidLooks := .later }
def PassBackCardSaid : Prop := Claim7.holds Tryd.pinned (.plain (OpenSpec.ofChange passBackSpec)) passBackCard

/-- THE TIED CARD OF 'tiltyardlaw06.PassNil'. -/
def passNilCard : Claim7 := { stood := { row := passNilRow, standIns := [], harness := (true, "9785646b697d097c1519471425dcbcca611b7965c2432207c009d10c3f74ff78"), looks := false }, kinds := [], alts := [], laidByText := true, laidKinds := [.data, .data], laidTests := true, laidLooks := .later }
def PassNilCardSaid : Prop := Claim7.holds Tryd.pinned (.plain (OpenSpec.ofChange passNilSpec)) passNilCard

/-- THE SECOND FORM's CARD OF 'tiltyardlaw02.ShaSteps'. -/
def shaStepsUptoCard : Claim7 := { stood := { row := shaStepsUptoRow, standIns := [], harness := (true, "9785646b697d097c1519471425dcbcca611b7965c2432207c009d10c3f74ff78"), looks := false }, kinds := [], alts := [], laidByText := true, laidKinds := [.data, .data], laidTests := true, laidLooks := .later }
def ShaStepsUptoCardSaid : Prop := Claim7.holds Tryd.pinned (.plain (OpenSpec.upto shaStepsSpec)) shaStepsUptoCard

/-- THE SECOND FORM's CARD OF 'tiltyardlaw02.ShaSums'. -/
def shaSumsUptoCard : Claim7 := { stood := { row := shaSumsUptoRow, standIns := [], harness := (true, "9785646b697d097c1519471425dcbcca611b7965c2432207c009d10c3f74ff78"), looks := false }, kinds := [], alts := [], laidByText := true, laidKinds := [.data, .data], laidTests := true, laidLooks := .later }
def ShaSumsUptoCardSaid : Prop := Claim7.holds Tryd.pinned (.plain (OpenSpec.upto shaSumsSpec)) shaSumsUptoCard

/-- THE SECOND FORM's CARD OF 'tiltyardlaw02.ShaParts'. -/
def shaPartsUptoCard : Claim7 := { stood := { row := shaPartsUptoRow, standIns := [], harness := (true, "9785646b697d097c1519471425dcbcca611b7965c2432207c009d10c3f74ff78"), looks := false }, kinds := [], alts := [], laidByText := true, laidKinds := [.data, .data], laidTests := true, laidLooks := .later }
def ShaPartsUptoCardSaid : Prop := Claim7.holds Tryd.pinned (.plain (OpenSpec.upto shaPartsSpec)) shaPartsUptoCard

/-- THE SECOND FORM's CARD OF 'tiltyardlaw02.ShaKept'. -/
def shaKeptUptoCard : Claim7 := { stood := { row := shaKeptUptoRow, standIns := [], harness := (true, "9785646b697d097c1519471425dcbcca611b7965c2432207c009d10c3f74ff78"), looks := false }, kinds := [], alts := [], laidByText := true, laidKinds := [.data, .data], laidTests := true, laidLooks := .later }
def ShaKeptUptoCardSaid : Prop := Claim7.holds Tryd.pinned (.plain (OpenSpec.upto shaKeptSpec)) shaKeptUptoCard

/-- THE SECOND FORM's CARD OF 'tiltyardlaw02.ShaChain'. -/
def shaChainUptoCard : Claim7 := { stood := { row := shaChainUptoRow, standIns := [], harness := (true, "9785646b697d097c1519471425dcbcca611b7965c2432207c009d10c3f74ff78"), looks := false }, kinds := [], alts := [], laidByText := true, laidKinds := [.data, .data], laidTests := true, laidLooks := .later }
def ShaChainUptoCardSaid : Prop := Claim7.holds Tryd.pinned (.plain (OpenSpec.upto shaChainSpec)) shaChainUptoCard

/-- THE SECOND FORM's CARD OF 'tiltyardlaw03.MacTags'. -/
def macTagsUptoCard : Claim7 := { stood := { row := macTagsUptoRow, standIns := [], harness := (true, "9785646b697d097c1519471425dcbcca611b7965c2432207c009d10c3f74ff78"), looks := false }, kinds := [], alts := [], laidByText := true, laidKinds := [.data, .data], laidTests := true, laidLooks := .later }
def MacTagsUptoCardSaid : Prop := Claim7.holds Tryd.pinned (.plain (OpenSpec.upto macTagsSpec)) macTagsUptoCard

/-- THE SECOND FORM's CARD OF 'tiltyardlaw03.MacMade'. -/
def macMadeUptoCard : Claim7 := { stood := { row := macMadeUptoRow, standIns := [], harness := (true, "9785646b697d097c1519471425dcbcca611b7965c2432207c009d10c3f74ff78"), looks := false }, kinds := [], alts := [], laidByText := true, laidKinds := [.data, .data], laidTests := true, laidLooks := .later }
def MacMadeUptoCardSaid : Prop := Claim7.holds Tryd.pinned (.plain (OpenSpec.upto macMadeSpec)) macMadeUptoCard

/-- THE SECOND FORM's CARD OF 'tiltyardlaw03.MacKeys'. -/
def macKeysUptoCard : Claim7 := { stood := { row := macKeysUptoRow, standIns := [], harness := (true, "9785646b697d097c1519471425dcbcca611b7965c2432207c009d10c3f74ff78"), looks := false }, kinds := [], alts := [], laidByText := true, laidKinds := [.data, .data], laidTests := true, laidLooks := .later }
def MacKeysUptoCardSaid : Prop := Claim7.holds Tryd.pinned (.plain (OpenSpec.upto macKeysSpec)) macKeysUptoCard

/-- THE SECOND FORM's CARD OF 'tiltyardlaw03.MacKept'. -/
def macKeptUptoCard : Claim7 := { stood := { row := macKeptUptoRow, standIns := [], harness := (true, "9785646b697d097c1519471425dcbcca611b7965c2432207c009d10c3f74ff78"), looks := false }, kinds := [], alts := [], laidByText := true, laidKinds := [.data, .data], laidTests := true, laidLooks := .later }
def MacKeptUptoCardSaid : Prop := Claim7.holds Tryd.pinned (.plain (OpenSpec.upto macKeptSpec)) macKeptUptoCard

/-- THE SECOND FORM's CARD OF 'tiltyardlaw03.MacFits'. -/
def macFitsUptoCard : Claim7 := { stood := { row := macFitsUptoRow, standIns := [], harness := (true, "9785646b697d097c1519471425dcbcca611b7965c2432207c009d10c3f74ff78"), looks := false }, kinds := [], alts := [], laidByText := true, laidKinds := [.data, .data], laidTests := true, laidLooks := .later }
def MacFitsUptoCardSaid : Prop := Claim7.holds Tryd.pinned (.plain (OpenSpec.upto macFitsSpec)) macFitsUptoCard

/-- THE SECOND FORM's CARD OF 'tiltyardlaw03.MacOwn'. -/
def macOwnUptoCard : Claim7 := { stood := { row := macOwnUptoRow, standIns := [], harness := (true, "9785646b697d097c1519471425dcbcca611b7965c2432207c009d10c3f74ff78"), looks := false }, kinds := [], alts := [], laidByText := true, laidKinds := [.data, .data], laidTests := true, laidLooks := .later }
def MacOwnUptoCardSaid : Prop := Claim7.holds Tryd.pinned (.plain (OpenSpec.upto macOwnSpec)) macOwnUptoCard

/-- THE SECOND FORM's CARD OF 'tiltyardlaw06.PassSeals'. -/
def passSealsUptoCard : Claim7 := { stood := { row := passSealsUptoRow, standIns := [], harness := (true, "9785646b697d097c1519471425dcbcca611b7965c2432207c009d10c3f74ff78"), looks := false }, kinds := [], alts := [], laidByText := true, laidKinds := [.data, .data], laidTests := true, laidLooks := .later }
def PassSealsUptoCardSaid : Prop := Claim7.holds Tryd.pinned (.plain (OpenSpec.upto passSealsSpec)) passSealsUptoCard

/-- THE SECOND FORM's CARD OF 'tiltyardlaw06.PassOld'. -/
def passOldUptoCard : Claim7 := { stood := { row := passOldUptoRow, standIns := [], harness := (true, "9785646b697d097c1519471425dcbcca611b7965c2432207c009d10c3f74ff78"), looks := false }, kinds := [], alts := [], laidByText := true, laidKinds := [.data, .data], laidTests := true, laidLooks := .later }
def PassOldUptoCardSaid : Prop := Claim7.holds Tryd.pinned (.plain (OpenSpec.upto passOldSpec)) passOldUptoCard

/-- THE SECOND FORM's CARD OF 'tiltyardlaw06.PassTickets'. -/
def passTicketsUptoCard : Claim7 := { stood := { row := passTicketsUptoRow, standIns := [], harness := (true, "9785646b697d097c1519471425dcbcca611b7965c2432207c009d10c3f74ff78"), looks := false }, kinds := [], alts := [], laidByText := true, laidKinds := [.data, .data], laidTests := true, laidLooks := .later }
def PassTicketsUptoCardSaid : Prop := Claim7.holds Tryd.pinned (.plain (OpenSpec.upto passTicketsSpec)) passTicketsUptoCard

/-- THE SECOND FORM's CARD OF 'tiltyardlaw06.PassTokens'. -/
def passTokensUptoCard : Claim7 := { stood := { row := passTokensUptoRow, standIns := [], harness := (true, "9785646b697d097c1519471425dcbcca611b7965c2432207c009d10c3f74ff78"), looks := false }, kinds := [], alts := [], laidByText := true, laidKinds := [.data, .data], laidTests := true, laidLooks := .later }
def PassTokensUptoCardSaid : Prop := Claim7.holds Tryd.pinned (.plain (OpenSpec.upto passTokensSpec)) passTokensUptoCard

/-- THE SECOND FORM's CARD OF 'tiltyardlaw06.PassOthers'. -/
def passOthersUptoCard : Claim7 := { stood := { row := passOthersUptoRow, standIns := [], harness := (true, "9785646b697d097c1519471425dcbcca611b7965c2432207c009d10c3f74ff78"), looks := false }, kinds := [], alts := [], laidByText := true, laidKinds := [.data, .data], laidTests := true, laidLooks := .later }
def PassOthersUptoCardSaid : Prop := Claim7.holds Tryd.pinned (.plain (OpenSpec.upto passOthersSpec)) passOthersUptoCard

/-- THE SECOND FORM's CARD OF 'tiltyardlaw06.PassBack'. -/
def passBackUptoCard : Claim7 := { stood := { row := passBackUptoRow, standIns := [], harness := (true, "9785646b697d097c1519471425dcbcca611b7965c2432207c009d10c3f74ff78"), looks := false }, kinds := [], alts := [], laidByText := true, laidKinds := [.data, .data], laidTests := true, laidLooks := .later }
def PassBackUptoCardSaid : Prop := Claim7.holds Tryd.pinned (.plain (OpenSpec.upto passBackSpec)) passBackUptoCard

/-- THE SECOND FORM's CARD OF 'tiltyardlaw06.PassNil'. -/
def passNilUptoCard : Claim7 := { stood := { row := passNilUptoRow, standIns := [], harness := (true, "9785646b697d097c1519471425dcbcca611b7965c2432207c009d10c3f74ff78"), looks := false }, kinds := [], alts := [], laidByText := true, laidKinds := [.data, .data], laidTests := true, laidLooks := .later }
def PassNilUptoCardSaid : Prop := Claim7.holds Tryd.pinned (.plain (OpenSpec.upto passNilSpec)) passNilUptoCard
end Rows
end Go.Proofs.YtpigkgnmegpddaaDoor
