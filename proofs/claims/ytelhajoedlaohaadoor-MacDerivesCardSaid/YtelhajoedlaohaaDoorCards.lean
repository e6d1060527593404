/-
  DERIVED. GIVEN WITH THE SEED: THE CARDS: each row of YtelhajoedlaohaaDoorRows.lean that lists a variable, with what it lists TIED to the program's text (the seventh form; the later family's looks); each row that meets fmt, with fmt's text TOLD by the authors' own Lean function (tested against real Go, not proved from fmt's source: count such statements apart). THE CARD IS WHAT COUNTS. Prove the row's statement (the work); the ties are given (YtelhajoedlaohaaDoorTie.lean); close each card by the builder's one call (the guide's Derived/Test/ToyasCard.lean, 'card_holds'). Laid BY PROGRAM, IN A SANDBOX (cutbox-door.mjs). By AI agents, Wed Nov 11 2026. No macro, syntax, notation, axiom, sorry.
-/
import Derived.Test.YtelhajoedlaohaaDoorRows
import GoSem.ClaimSeven
namespace Go.Proofs.YtelhajoedlaohaaDoor
namespace Rows

/-- THE TIED CARD OF 'precinctlaw04.ShaBlocks'. -/
def shaBlocksCard : Claim7 := { stood := { row := shaBlocksRow, standIns := [], harness := (true, "2687588e989a4291c635200fc16d5f46efdb37a8da6cc030479f4f089d4a0498"), looks := false }, kinds := [], alts := [], laidByText := true, laidKinds := [.data], laidTests := true, laidLooks := .later }
def ShaBlocksCardSaid : Prop := Claim7.holds Tryd.pinned (.plain (OpenSpec.ofChange shaBlocksSpec)) shaBlocksCard

/-- THE TIED CARD OF 'precinctlaw04.ShaSums'. -/
def shaSumsCard : Claim7 := { stood := { row := shaSumsRow, standIns := [], harness := (true, "2687588e989a4291c635200fc16d5f46efdb37a8da6cc030479f4f089d4a0498"), looks := false }, kinds := [], alts := [], laidByText := true, laidKinds := [.data], laidTests := true, laidLooks := .later }
def ShaSumsCardSaid : Prop := Claim7.holds Tryd.pinned (.plain (OpenSpec.ofChange shaSumsSpec)) shaSumsCard

/-- THE TIED CARD OF 'precinctlaw04.ShaWhole'. -/
def shaWholeCard : Claim7 := { stood := { row := shaWholeRow, standIns := [], harness := (true, "2687588e989a4291c635200fc16d5f46efdb37a8da6cc030479f4f089d4a0498"), looks := false }, kinds := [], alts := [], laidByText := true, laidKinds := [.data], laidTests := true, laidLooks := .later }
def ShaWholeCardSaid : Prop := Claim7.holds Tryd.pinned (.plain (OpenSpec.ofChange shaWholeSpec)) shaWholeCard

/-- THE TIED CARD OF 'precinctlaw05.MacLays'. -/
def macLaysCard : Claim7 := { stood := { row := macLaysRow, standIns := [], harness := (true, "2687588e989a4291c635200fc16d5f46efdb37a8da6cc030479f4f089d4a0498"), looks := false }, kinds := [], alts := [], laidByText := true, laidKinds := [.data], laidTests := true, laidLooks := .later }
def MacLaysCardSaid : Prop := Claim7.holds Tryd.pinned (.plain (OpenSpec.ofChange macLaysSpec)) macLaysCard

/-- THE TIED CARD OF 'precinctlaw05.MacTags'. -/
def macTagsCard : Claim7 := { stood := { row := macTagsRow, standIns := [], harness := (true, "2687588e989a4291c635200fc16d5f46efdb37a8da6cc030479f4f089d4a0498"), looks := false }, kinds := [], alts := [], laidByText := true, laidKinds := [.data], laidTests := true, laidLooks := .later }
def MacTagsCardSaid : Prop := Claim7.holds Tryd.pinned (.plain (OpenSpec.ofChange macTagsSpec)) macTagsCard

/-- THE TIED CARD OF 'precinctlaw05.MacWhole'. -/
def macWholeCard : Claim7 := { stood := { row := macWholeRow, standIns := [], harness := (true, "2687588e989a4291c635200fc16d5f46efdb37a8da6cc030479f4f089d4a0498"), looks := false }, kinds := [], alts := [], laidByText := true, laidKinds := [.data], laidTests := true, laidLooks := .later }
def MacWholeCardSaid : Prop := Claim7.holds Tryd.pinned (.plain (OpenSpec.ofChange macWholeSpec)) macWholeCard

/-- THE TIED CARD OF 'precinctlaw05.MacDerives'. -/
def macDerivesCard : Claim7 := { stood := { row := macDerivesRow, standIns := [], harness := (true, "2687588e989a4291c635200fc16d5f46efdb37a8da6cc030479f4f089d4a0498"), looks := false }, kinds := [], alts := [], laidByText := true, laidKinds := [.data], laidTests := true, laidLooks := .later }
def MacDerivesCardSaid : Prop := Claim7.holds Tryd.pinned (.plain (OpenSpec.ofChange macDerivesSpec)) macDerivesCard

/-- THE SECOND FORM's CARD OF 'precinctlaw04.ShaBlocks'. -/
def shaBlocksUptoCard : Claim7 := { stood := { row := shaBlocksUptoRow, standIns := [], harness := (true, "2687588e989a4291c635200fc16d5f46efdb37a8da6cc030479f4f089d4a0498"), looks := false }, kinds := [], alts := [], laidByText := true, laidKinds := [.data], laidTests := true, laidLooks := .later }
def ShaBlocksUptoCardSaid : Prop := Claim7.holds Tryd.pinned (.plain (OpenSpec.upto shaBlocksSpec)) shaBlocksUptoCard

/-- THE SECOND FORM's CARD OF 'precinctlaw04.ShaSums'. -/
def shaSumsUptoCard : Claim7 := { stood := { row := shaSumsUptoRow, standIns := [], harness := (true, "2687588e989a4291c635200fc16d5f46efdb37a8da6cc030479f4f089d4a0498"), looks := false }, kinds := [], alts := [], laidByText := true, laidKinds := [.data], laidTests := true, laidLooks := .later }
def ShaSumsUptoCardSaid : Prop := Claim7.holds Tryd.pinned (.plain (OpenSpec.upto shaSumsSpec)) shaSumsUptoCard

/-- THE SECOND FORM's CARD OF 'precinctlaw04.ShaWhole'. -/
def shaWholeUptoCard : Claim7 := { stood := { row := shaWholeUptoRow, standIns := [], harness := (true, "2687588e989a4291c635200fc16d5f46efdb37a8da6cc030479f4f089d4a0498"), looks := false }, kinds := [], alts := [], laidByText := true, laidKinds := [.data], laidTests := true, laidLooks := .later }
def ShaWholeUptoCardSaid : Prop := Claim7.holds Tryd.pinned (.plain (OpenSpec.upto shaWholeSpec)) shaWholeUptoCard

/-- THE SECOND FORM's CARD OF 'precinctlaw05.MacLays'. -/
def macLaysUptoCard : Claim7 := { stood := { row := macLaysUptoRow, standIns := [], harness := (true, "2687588e989a4291c635200fc16d5f46efdb37a8da6cc030479f4f089d4a0498"), looks := false }, kinds := [], alts := [], laidByText := true, laidKinds := [.data], laidTests := true, laidLooks := .later }
def MacLaysUptoCardSaid : Prop := Claim7.holds Tryd.pinned (.plain (OpenSpec.upto macLaysSpec)) macLaysUptoCard

/-- THE SECOND FORM's CARD OF 'precinctlaw05.MacTags'. -/
def macTagsUptoCard : Claim7 := { stood := { row := macTagsUptoRow, standIns := [], harness := (true, "2687588e989a4291c635200fc16d5f46efdb37a8da6cc030479f4f089d4a0498"), looks := false }, kinds := [], alts := [], laidByText := true, laidKinds := [.data], laidTests := true, laidLooks := .later }
def MacTagsUptoCardSaid : Prop := Claim7.holds Tryd.pinned (.plain (OpenSpec.upto macTagsSpec)) macTagsUptoCard

/-- THE SECOND FORM's CARD OF 'precinctlaw05.MacWhole'. -/
def macWholeUptoCard : Claim7 := { stood := { row := macWholeUptoRow, standIns := [], harness := (true, "2687588e989a4291c635200fc16d5f46efdb37a8da6cc030479f4f089d4a0498"), looks := false }, kinds := [], alts := [], laidByText := true, laidKinds := [.data], laidTests := true, laidLooks := .later }
def MacWholeUptoCardSaid : Prop := Claim7.holds Tryd.pinned (.plain (OpenSpec.upto macWholeSpec)) macWholeUptoCard

/-- THE SECOND FORM's CARD OF 'precinctlaw05.MacDerives'. -/
def macDerivesUptoCard : Claim7 := { stood := { row := macDerivesUptoRow, standIns := [], harness := (true, "2687588e989a4291c635200fc16d5f46efdb37a8da6cc030479f4f089d4a0498"), looks := false }, kinds := [], alts := [], laidByText := true, laidKinds := [.data], laidTests := true, laidLooks := .later }
def MacDerivesUptoCardSaid : Prop := Claim7.holds Tryd.pinned (.plain (OpenSpec.upto macDerivesSpec)) macDerivesUptoCard
end Rows
end Go.Proofs.YtelhajoedlaohaaDoor
