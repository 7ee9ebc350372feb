/-
  DERIVED. GIVEN WITH THE SEED: THE CARDS: each row of YtaeglabjhpfepaaDoorRows.lean that lists a variable, with what it lists TIED to the program's text (the seventh form; the later family's looks); each row that meets fmt, with fmt's text TOLD by the authors' own Lean function (tested against real Go, not proved from fmt's source: count such statements apart). THE CARD IS WHAT COUNTS. Prove the row's statement (the work); the ties are given (YtaeglabjhpfepaaDoorTie.lean); close each card by the builder's one call (the guide's Derived/Test/ToyasCard.lean, 'card_holds'). Laid BY PROGRAM, IN A SANDBOX (cutbox-door.mjs). By AI agents, Wed Nov 11 2026. No macro, syntax, notation, axiom, sorry.
-/
import Derived.Test.YtaeglabjhpfepaaDoorRows
import GoSem.ClaimSeven
namespace Go.Proofs.YtaeglabjhpfepaaDoor
namespace Rows

/-- THE TIED CARD OF 'joistlaw07.HandleCodes'. -/
def handleCodesCard : Claim7 := { stood := { row := handleCodesRow, standIns := [], harness := (true, "44d67e3ab039451d5f4405e1d2fcbb82cbc6613cb0f9cb4f686bf0a22722eaf7"), looks := false }, kinds := [], alts := [], laidByText := true, laidKinds := [.data, .data, .data], laidTests := true, laidLooks := .later }
def HandleCodesCardSaid : Prop := Claim7.holds Tryd.pinned (.plain (OpenSpec.ofChange handleCodesSpec)) handleCodesCard

/-- THE TIED CARD OF 'joistlaw07.HandleBack'. -/
def handleBackCard : Claim7 := { stood := { row := handleBackRow, standIns := [], harness := (true, "44d67e3ab039451d5f4405e1d2fcbb82cbc6613cb0f9cb4f686bf0a22722eaf7"), looks := false }, kinds := [], alts := [], laidByText := true, laidKinds := [.data, .data, .data], laidTests := true, laidLooks := .later }
def HandleBackCardSaid : Prop := Claim7.holds Tryd.pinned (.plain (OpenSpec.ofChange handleBackSpec)) handleBackCard

/-- THE TIED CARD OF 'joistlaw07.HandleTexts'. -/
def handleTextsCard : Claim7 := { stood := { row := handleTextsRow, standIns := [], harness := (true, "44d67e3ab039451d5f4405e1d2fcbb82cbc6613cb0f9cb4f686bf0a22722eaf7"), looks := false }, kinds := [], alts := [], laidByText := true, laidKinds := [.data, .data, .data], laidTests := true, laidLooks := .later }
def HandleTextsCardSaid : Prop := Claim7.holds Tryd.pinned (.plain (OpenSpec.ofChange handleTextsSpec)) handleTextsCard

/-- THE TIED CARD OF 'joistlaw07.HandleOrders'. -/
def handleOrdersCard : Claim7 := { stood := { row := handleOrdersRow, standIns := [], harness := (true, "44d67e3ab039451d5f4405e1d2fcbb82cbc6613cb0f9cb4f686bf0a22722eaf7"), looks := false }, kinds := [], alts := [], laidByText := true, laidKinds := [.data, .data, .data], laidTests := true, laidLooks := .later }
def HandleOrdersCardSaid : Prop := Claim7.holds Tryd.pinned (.plain (OpenSpec.ofChange handleOrdersSpec)) handleOrdersCard

/-- THE TIED CARD OF 'joistlaw07.HandleSteps'. -/
def handleStepsCard : Claim7 := { stood := { row := handleStepsRow, standIns := [], harness := (true, "44d67e3ab039451d5f4405e1d2fcbb82cbc6613cb0f9cb4f686bf0a22722eaf7"), looks := false }, kinds := [], alts := [], laidByText := true, laidKinds := [.data, .data, .data], laidTests := true, laidLooks := .later }
def HandleStepsCardSaid : Prop := Claim7.holds Tryd.pinned (.plain (OpenSpec.ofChange handleStepsSpec)) handleStepsCard

/-- THE SECOND FORM's CARD OF 'joistlaw07.HandleCodes'. -/
def handleCodesUptoCard : Claim7 := { stood := { row := handleCodesUptoRow, standIns := [], harness := (true, "44d67e3ab039451d5f4405e1d2fcbb82cbc6613cb0f9cb4f686bf0a22722eaf7"), looks := false }, kinds := [], alts := [], laidByText := true, laidKinds := [.data, .data, .data], laidTests := true, laidLooks := .later }
def HandleCodesUptoCardSaid : Prop := Claim7.holds Tryd.pinned (.plain (OpenSpec.upto handleCodesSpec)) handleCodesUptoCard

/-- THE SECOND FORM's CARD OF 'joistlaw07.HandleBack'. -/
def handleBackUptoCard : Claim7 := { stood := { row := handleBackUptoRow, standIns := [], harness := (true, "44d67e3ab039451d5f4405e1d2fcbb82cbc6613cb0f9cb4f686bf0a22722eaf7"), looks := false }, kinds := [], alts := [], laidByText := true, laidKinds := [.data, .data, .data], laidTests := true, laidLooks := .later }
def HandleBackUptoCardSaid : Prop := Claim7.holds Tryd.pinned (.plain (OpenSpec.upto handleBackSpec)) handleBackUptoCard

/-- THE SECOND FORM's CARD OF 'joistlaw07.HandleTexts'. -/
def handleTextsUptoCard : Claim7 := { stood := { row := handleTextsUptoRow, standIns := [], harness := (true, "44d67e3ab039451d5f4405e1d2fcbb82cbc6613cb0f9cb4f686bf0a22722eaf7"), looks := false }, kinds := [], alts := [], laidByText := true, laidKinds := [.data, .data, .data], laidTests := true, laidLooks := .later }
def HandleTextsUptoCardSaid : Prop := Claim7.holds Tryd.pinned (.plain (OpenSpec.upto handleTextsSpec)) handleTextsUptoCard

/-- THE SECOND FORM's CARD OF 'joistlaw07.HandleOrders'. -/
def handleOrdersUptoCard : Claim7 := { stood := { row := handleOrdersUptoRow, standIns := [], harness := (true, "44d67e3ab039451d5f4405e1d2fcbb82cbc6613cb0f9cb4f686bf0a22722eaf7"), looks := false }, kinds := [], alts := [], laidByText := true, laidKinds := [.data, .data, .data], laidTests := true, laidLooks := .later }
def HandleOrdersUptoCardSaid : Prop := Claim7.holds Tryd.pinned (.plain (OpenSpec.upto handleOrdersSpec)) handleOrdersUptoCard

/-- THE SECOND FORM's CARD OF 'joistlaw07.HandleSteps'. -/
def handleStepsUptoCard : Claim7 := { stood := { row := handleStepsUptoRow, standIns := [], harness := (true, "44d67e3ab039451d5f4405e1d2fcbb82cbc6613cb0f9cb4f686bf0a22722eaf7"), looks := false }, kinds := [], alts := [], laidByText := true, laidKinds := [.data, .data, .data], laidTests := true, laidLooks := .later }
def HandleStepsUptoCardSaid : Prop := Claim7.holds Tryd.pinned (.plain (OpenSpec.upto handleStepsSpec)) handleStepsUptoCard
end Rows
end Go.Proofs.YtaeglabjhpfepaaDoor
