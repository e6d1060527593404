/-
  DERIVED. GIVEN WITH THE SEED: THE CARDS: each row of YtpbnfnaebdmagaaDoorRows.lean that lists a variable, with what it lists TIED to the program's text (the seventh form; the later family's looks); each row that meets fmt, with fmt's text TOLD by the authors' own Lean function (tested against real Go, not proved from fmt's source: count such statements apart). THE CARD IS WHAT COUNTS. Prove the row's statement (the work); the ties are given (YtpbnfnaebdmagaaDoorTie.lean); close each card by the builder's one call (the guide's Derived/Test/ToyasCard.lean, 'card_holds'). Laid BY PROGRAM, IN A SANDBOX (cutbox-door.mjs). By AI agents, Wed Nov 11 2026. No macro, syntax, notation, axiom, sorry.
-/
import Derived.Test.YtpbnfnaebdmagaaDoorRows
import GoSem.ClaimSeven
namespace Go.Proofs.YtpbnfnaebdmagaaDoor
namespace Rows

/-- THE TIED CARD OF 'precinctlaw09.TokenParses'. -/
def tokenParsesCard : Claim7 := { stood := { row := tokenParsesRow, standIns := [], harness := (true, "bc92749ba895333809214b1a2845442750adcce927d74251e5d2b606dee2b2f2"), looks := true }, kinds := [], alts := [], laidByText := true, laidKinds := [.data], laidTests := true, laidLooks := .later }
def TokenParsesCardSaid : Prop := Claim7.holds Tryd.pinned (.plain (OpenSpec.ofChange tokenParsesSpec)) tokenParsesCard

/-- THE TIED CARD OF 'precinctlaw09.TokenMints'. -/
def tokenMintsCard : Claim7 := { stood := { row := tokenMintsRow, standIns := [], harness := (true, "bc92749ba895333809214b1a2845442750adcce927d74251e5d2b606dee2b2f2"), looks := true }, kinds := [], alts := [], laidByText := true, laidKinds := [.data], laidTests := true, laidLooks := .later }
def TokenMintsCardSaid : Prop := Claim7.holds Tryd.pinned (.plain (OpenSpec.ofChange tokenMintsSpec)) tokenMintsCard

/-- THE TIED CARD OF 'precinctlaw09.TokenVerifies'. -/
def tokenVerifiesCard : Claim7 := { stood := { row := tokenVerifiesRow, standIns := [], harness := (true, "bc92749ba895333809214b1a2845442750adcce927d74251e5d2b606dee2b2f2"), looks := true }, kinds := [], alts := [], laidByText := true, laidKinds := [.data], laidTests := true, laidLooks := .later }
def TokenVerifiesCardSaid : Prop := Claim7.holds Tryd.pinned (.plain (OpenSpec.ofChange tokenVerifiesSpec)) tokenVerifiesCard

/-- THE TIED CARD OF 'precinctlaw09.TokenBack'. -/
def tokenBackCard : Claim7 := { stood := { row := tokenBackRow, standIns := [], harness := (true, "bc92749ba895333809214b1a2845442750adcce927d74251e5d2b606dee2b2f2"), looks := true }, kinds := [], alts := [], laidByText := true, laidKinds := [.data], laidTests := true, laidLooks := .later }
def TokenBackCardSaid : Prop := Claim7.holds Tryd.pinned (.plain (OpenSpec.ofChange tokenBackSpec)) tokenBackCard

/-- THE TIED CARD OF 'precinctlaw09.TokenBits'. -/
def tokenBitsCard : Claim7 := { stood := { row := tokenBitsRow, standIns := [], harness := (true, "bc92749ba895333809214b1a2845442750adcce927d74251e5d2b606dee2b2f2"), looks := true }, kinds := [], alts := [], laidByText := true, laidKinds := [.data], laidTests := true, laidLooks := .later }
def TokenBitsCardSaid : Prop := Claim7.holds Tryd.pinned (.plain (OpenSpec.ofChange tokenBitsSpec)) tokenBitsCard

/-- THE TIED CARD OF 'precinctlaw09.TokenOrder'. -/
def tokenOrderCard : Claim7 := { stood := { row := tokenOrderRow, standIns := [], harness := (true, "bc92749ba895333809214b1a2845442750adcce927d74251e5d2b606dee2b2f2"), looks := true }, kinds := [], alts := [], laidByText := true, laidKinds := [.data], laidTests := true, laidLooks := .later }
def TokenOrderCardSaid : Prop := Claim7.holds Tryd.pinned (.plain (OpenSpec.ofChange tokenOrderSpec)) tokenOrderCard

/-- THE SECOND FORM's CARD OF 'precinctlaw09.TokenParses'. -/
def tokenParsesUptoCard : Claim7 := { stood := { row := tokenParsesUptoRow, standIns := [], harness := (true, "bc92749ba895333809214b1a2845442750adcce927d74251e5d2b606dee2b2f2"), looks := true }, kinds := [], alts := [], laidByText := true, laidKinds := [.data], laidTests := true, laidLooks := .later }
def TokenParsesUptoCardSaid : Prop := Claim7.holds Tryd.pinned (.plain (OpenSpec.upto tokenParsesSpec)) tokenParsesUptoCard

/-- THE SECOND FORM's CARD OF 'precinctlaw09.TokenMints'. -/
def tokenMintsUptoCard : Claim7 := { stood := { row := tokenMintsUptoRow, standIns := [], harness := (true, "bc92749ba895333809214b1a2845442750adcce927d74251e5d2b606dee2b2f2"), looks := true }, kinds := [], alts := [], laidByText := true, laidKinds := [.data], laidTests := true, laidLooks := .later }
def TokenMintsUptoCardSaid : Prop := Claim7.holds Tryd.pinned (.plain (OpenSpec.upto tokenMintsSpec)) tokenMintsUptoCard

/-- THE SECOND FORM's CARD OF 'precinctlaw09.TokenVerifies'. -/
def tokenVerifiesUptoCard : Claim7 := { stood := { row := tokenVerifiesUptoRow, standIns := [], harness := (true, "bc92749ba895333809214b1a2845442750adcce927d74251e5d2b606dee2b2f2"), looks := true }, kinds := [], alts := [], laidByText := true, laidKinds := [.data], laidTests := true, laidLooks := .later }
def TokenVerifiesUptoCardSaid : Prop := Claim7.holds Tryd.pinned (.plain (OpenSpec.upto tokenVerifiesSpec)) tokenVerifiesUptoCard

/-- THE SECOND FORM's CARD OF 'precinctlaw09.TokenBack'. -/
def tokenBackUptoCard : Claim7 := { stood := { row := tokenBackUptoRow, standIns := [], harness := (true, "bc92749ba895333809214b1a2845442750adcce927d74251e5d2b606dee2b2f2"), looks := true }, kinds := [], alts := [], laidByText := true, laidKinds := [.data], laidTests := true, laidLooks := .later }
def TokenBackUptoCardSaid : Prop := Claim7.holds Tryd.pinned (.plain (OpenSpec.upto tokenBackSpec)) tokenBackUptoCard

/-- THE SECOND FORM's CARD OF 'precinctlaw09.TokenBits'. -/
def tokenBitsUptoCard : Claim7 := { stood := { row := tokenBitsUptoRow, standIns := [], harness := (true, "bc92749ba895333809214b1a2845442750adcce927d74251e5d2b606dee2b2f2"), looks := true }, kinds := [], alts := [], laidByText := true, laidKinds := [.data], laidTests := true, laidLooks := .later }
def TokenBitsUptoCardSaid : Prop := Claim7.holds Tryd.pinned (.plain (OpenSpec.upto tokenBitsSpec)) tokenBitsUptoCard

/-- THE SECOND FORM's CARD OF 'precinctlaw09.TokenOrder'. -/
def tokenOrderUptoCard : Claim7 := { stood := { row := tokenOrderUptoRow, standIns := [], harness := (true, "bc92749ba895333809214b1a2845442750adcce927d74251e5d2b606dee2b2f2"), looks := true }, kinds := [], alts := [], laidByText := true, laidKinds := [.data], laidTests := true, laidLooks := .later }
def TokenOrderUptoCardSaid : Prop := Claim7.holds Tryd.pinned (.plain (OpenSpec.upto tokenOrderSpec)) tokenOrderUptoCard
end Rows
end Go.Proofs.YtpbnfnaebdmagaaDoor
