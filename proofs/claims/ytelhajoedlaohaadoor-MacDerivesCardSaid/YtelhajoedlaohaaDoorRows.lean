/-
  NARROWER THAN 'FOR EVERY INPUT', by the rows' own cells (each row's printed sentence says how): ShaBlocks: laid · ShaSums: laid · ShaWhole: laid · MacLays: laid · MacTags: laid · MacWhole: laid · MacDerives: laid.
  DERIVED. THE GIVEN ROWS OF THIS SEAT. 7 by the template 'for every input the law returns true; each argument reads behind the call as it read before'; 0 by the template 'total and deterministic' (their statements: YtelhajoedlaohaaDoorTotals.lean).
  GIVEN WITH THE SEED: the statements are not yours to turn. If you find one false, say at which input.
  Laid BY PROGRAM, IN A SANDBOX (cutbox-rows.mjs): the forced cells as the released guide's own fill.sh prints them over the translation 45085e59985d6365… (all of the seat's roots in one cut). By AI agents, Wed Nov 11 2026. No macro, syntax, notation, axiom, sorry.
-/
import Derived.Test.YtelhajoedlaohaaDoorChecked
import GoSem.Claim
import GoSem.ClaimJoined
import GoSem.ClaimMapViews
import Derived.JoinedTies
import Derived.KernelRfl
namespace Go.Proofs.YtelhajoedlaohaaDoor
/- THE CELL 'sum', in the pinned program and in every row, IS THE sha256 OF THE DUMP (.gsa) THAT YtelhajoedlaohaaDoorProg.lean LOADS. Nothing in Lean hashes anything: it is a label: what it is worth is what the hold of that sum in a sandbox is worth. -/
noncomputable def Tryd.pinned : Pinned := { name := "ytelhajoedlaohaadoor", sum := "45085e59985d63654dd0ecd8a99f7dbadd5a7696c41d0f648a98532612ce21aa", checked := Tryd.checked }
namespace Rows
def none {H : Type} : Left H := { results := [], args := [] }

/- WHAT THE LISTED PACKAGE-LEVEL VARIABLES READ AS WHEN THE CALL BEGINS. Each datum BY PROGRAM (the guide's laid-datum.mjs) off the statement by which the dump's own 'gosem.cut.vars' lays the variable. In a bare row this is a premise. The card (YtelhajoedlaohaaDoorCards.lean) ties it to the program's text. -/
def laid_precinct_sha_round {H : Type} : DataW H := .agg [.lit (.int .u32 1116352408), .lit (.int .u32 1899447441), .lit (.int .u32 3049323471), .lit (.int .u32 3921009573), .lit (.int .u32 961987163), .lit (.int .u32 1508970993), .lit (.int .u32 2453635748), .lit (.int .u32 2870763221), .lit (.int .u32 3624381080), .lit (.int .u32 310598401), .lit (.int .u32 607225278), .lit (.int .u32 1426881987), .lit (.int .u32 1925078388), .lit (.int .u32 2162078206), .lit (.int .u32 2614888103), .lit (.int .u32 3248222580), .lit (.int .u32 3835390401), .lit (.int .u32 4022224774), .lit (.int .u32 264347078), .lit (.int .u32 604807628), .lit (.int .u32 770255983), .lit (.int .u32 1249150122), .lit (.int .u32 1555081692), .lit (.int .u32 1996064986), .lit (.int .u32 2554220882), .lit (.int .u32 2821834349), .lit (.int .u32 2952996808), .lit (.int .u32 3210313671), .lit (.int .u32 3336571891), .lit (.int .u32 3584528711), .lit (.int .u32 113926993), .lit (.int .u32 338241895), .lit (.int .u32 666307205), .lit (.int .u32 773529912), .lit (.int .u32 1294757372), .lit (.int .u32 1396182291), .lit (.int .u32 1695183700), .lit (.int .u32 1986661051), .lit (.int .u32 2177026350), .lit (.int .u32 2456956037), .lit (.int .u32 2730485921), .lit (.int .u32 2820302411), .lit (.int .u32 3259730800), .lit (.int .u32 3345764771), .lit (.int .u32 3516065817), .lit (.int .u32 3600352804), .lit (.int .u32 4094571909), .lit (.int .u32 275423344), .lit (.int .u32 430227734), .lit (.int .u32 506948616), .lit (.int .u32 659060556), .lit (.int .u32 883997877), .lit (.int .u32 958139571), .lit (.int .u32 1322822218), .lit (.int .u32 1537002063), .lit (.int .u32 1747873779), .lit (.int .u32 1955562222), .lit (.int .u32 2024104815), .lit (.int .u32 2227730452), .lit (.int .u32 2361852424), .lit (.int .u32 2428436474), .lit (.int .u32 2756734187), .lit (.int .u32 3204031479), .lit (.int .u32 3329325298)]

/-- 'precinctlaw04.ShaBlocks': WHATEVER THE INPUT: true; the input reads as it did. -/
def shaBlocksSpec : ChangeSpec := { name := "shaBlocks", fn := fun _ => fun
  | [d1, d2] => { results := [.lit (.bool true)], args := [d1, d2] }
  | _ => none }
def shaBlocksRow : OpenClaim := { program := "ytelhajoedlaohaadoor", sum := "45085e59985d63654dd0ecd8a99f7dbadd5a7696c41d0f648a98532612ce21aa", func := "precinct/precinctlaw04.ShaBlocks", spec := "shaBlocks", named := ["precinct/sha.round"], apart := false, laid := [("precinct/sha.round", laid_precinct_sha_round)] }
def ShaBlocksSaid : Prop := shaBlocksRow.holds Tryd.pinned (OpenSpec.ofChange shaBlocksSpec)

/-- ITS FALSE NEIGHBOUR: 'it returns false'. Refute it at one input. -/
def shaBlocksWrong : ChangeSpec := { name := "shaBlocks", fn := fun _ => fun
  | [d1, d2] => { results := [.lit (.bool false)], args := [d1, d2] }
  | _ => none }
def ShaBlocksWrongFalsely : Prop := shaBlocksRow.holds Tryd.pinned (OpenSpec.ofChange shaBlocksWrong)

/-- 'precinctlaw04.ShaSums': WHATEVER THE INPUT: true; the input reads as it did. -/
def shaSumsSpec : ChangeSpec := { name := "shaSums", fn := fun _ => fun
  | [d] => { results := [.lit (.bool true)], args := [d] }
  | _ => none }
def shaSumsRow : OpenClaim := { program := "ytelhajoedlaohaadoor", sum := "45085e59985d63654dd0ecd8a99f7dbadd5a7696c41d0f648a98532612ce21aa", func := "precinct/precinctlaw04.ShaSums", spec := "shaSums", inPlace := ["internal/abi.NoEscape", "internal/bytealg.MakeNoZero"], named := ["precinct/sha.round"], apart := false, laid := [("precinct/sha.round", laid_precinct_sha_round)] }
def ShaSumsSaid : Prop := shaSumsRow.holds Tryd.pinned (OpenSpec.ofChange shaSumsSpec)

/-- ITS FALSE NEIGHBOUR: 'it returns false'. Refute it at one input. -/
def shaSumsWrong : ChangeSpec := { name := "shaSums", fn := fun _ => fun
  | [d] => { results := [.lit (.bool false)], args := [d] }
  | _ => none }
def ShaSumsWrongFalsely : Prop := shaSumsRow.holds Tryd.pinned (OpenSpec.ofChange shaSumsWrong)

/-- 'precinctlaw04.ShaWhole': WHATEVER THE INPUT: true; the input reads as it did. -/
def shaWholeSpec : ChangeSpec := { name := "shaWhole", fn := fun _ => fun
  | [d] => { results := [.lit (.bool true)], args := [d] }
  | _ => none }
def shaWholeRow : OpenClaim := { program := "ytelhajoedlaohaadoor", sum := "45085e59985d63654dd0ecd8a99f7dbadd5a7696c41d0f648a98532612ce21aa", func := "precinct/precinctlaw04.ShaWhole", spec := "shaWhole", inPlace := ["internal/abi.NoEscape", "internal/bytealg.MakeNoZero"], named := ["precinct/sha.round"], apart := false, laid := [("precinct/sha.round", laid_precinct_sha_round)] }
def ShaWholeSaid : Prop := shaWholeRow.holds Tryd.pinned (OpenSpec.ofChange shaWholeSpec)

/-- ITS FALSE NEIGHBOUR: 'it returns false'. Refute it at one input. -/
def shaWholeWrong : ChangeSpec := { name := "shaWhole", fn := fun _ => fun
  | [d] => { results := [.lit (.bool false)], args := [d] }
  | _ => none }
def ShaWholeWrongFalsely : Prop := shaWholeRow.holds Tryd.pinned (OpenSpec.ofChange shaWholeWrong)

/-- 'precinctlaw05.MacLays': WHATEVER THE INPUT: true; the input reads as it did. -/
def macLaysSpec : ChangeSpec := { name := "macLays", fn := fun _ => fun
  | [d] => { results := [.lit (.bool true)], args := [d] }
  | _ => none }
def macLaysRow : OpenClaim := { program := "ytelhajoedlaohaadoor", sum := "45085e59985d63654dd0ecd8a99f7dbadd5a7696c41d0f648a98532612ce21aa", func := "precinct/precinctlaw05.MacLays", spec := "macLays", inPlace := ["internal/abi.NoEscape", "internal/bytealg.MakeNoZero"], named := ["precinct/sha.round"], apart := false, laid := [("precinct/sha.round", laid_precinct_sha_round)] }
def MacLaysSaid : Prop := macLaysRow.holds Tryd.pinned (OpenSpec.ofChange macLaysSpec)

/-- ITS FALSE NEIGHBOUR: 'it returns false'. Refute it at one input. -/
def macLaysWrong : ChangeSpec := { name := "macLays", fn := fun _ => fun
  | [d] => { results := [.lit (.bool false)], args := [d] }
  | _ => none }
def MacLaysWrongFalsely : Prop := macLaysRow.holds Tryd.pinned (OpenSpec.ofChange macLaysWrong)

/-- 'precinctlaw05.MacTags': WHATEVER THE INPUT: true; the input reads as it did. -/
def macTagsSpec : ChangeSpec := { name := "macTags", fn := fun _ => fun
  | [d1, d2] => { results := [.lit (.bool true)], args := [d1, d2] }
  | _ => none }
def macTagsRow : OpenClaim := { program := "ytelhajoedlaohaadoor", sum := "45085e59985d63654dd0ecd8a99f7dbadd5a7696c41d0f648a98532612ce21aa", func := "precinct/precinctlaw05.MacTags", spec := "macTags", inPlace := ["internal/abi.NoEscape", "internal/bytealg.MakeNoZero"], named := ["precinct/sha.round"], apart := false, laid := [("precinct/sha.round", laid_precinct_sha_round)] }
def MacTagsSaid : Prop := macTagsRow.holds Tryd.pinned (OpenSpec.ofChange macTagsSpec)

/-- ITS FALSE NEIGHBOUR: 'it returns false'. Refute it at one input. -/
def macTagsWrong : ChangeSpec := { name := "macTags", fn := fun _ => fun
  | [d1, d2] => { results := [.lit (.bool false)], args := [d1, d2] }
  | _ => none }
def MacTagsWrongFalsely : Prop := macTagsRow.holds Tryd.pinned (OpenSpec.ofChange macTagsWrong)

/-- 'precinctlaw05.MacWhole': WHATEVER THE INPUT: true; the input reads as it did. -/
def macWholeSpec : ChangeSpec := { name := "macWhole", fn := fun _ => fun
  | [d1, d2, d3] => { results := [.lit (.bool true)], args := [d1, d2, d3] }
  | _ => none }
def macWholeRow : OpenClaim := { program := "ytelhajoedlaohaadoor", sum := "45085e59985d63654dd0ecd8a99f7dbadd5a7696c41d0f648a98532612ce21aa", func := "precinct/precinctlaw05.MacWhole", spec := "macWhole", inPlace := ["internal/abi.NoEscape", "internal/bytealg.MakeNoZero"], named := ["precinct/sha.round"], apart := false, laid := [("precinct/sha.round", laid_precinct_sha_round)] }
def MacWholeSaid : Prop := macWholeRow.holds Tryd.pinned (OpenSpec.ofChange macWholeSpec)

/-- ITS FALSE NEIGHBOUR: 'it returns false'. Refute it at one input. -/
def macWholeWrong : ChangeSpec := { name := "macWhole", fn := fun _ => fun
  | [d1, d2, d3] => { results := [.lit (.bool false)], args := [d1, d2, d3] }
  | _ => none }
def MacWholeWrongFalsely : Prop := macWholeRow.holds Tryd.pinned (OpenSpec.ofChange macWholeWrong)

/-- 'precinctlaw05.MacDerives': WHATEVER THE INPUT: true; the input reads as it did. -/
def macDerivesSpec : ChangeSpec := { name := "macDerives", fn := fun _ => fun
  | [d1, d2, d3] => { results := [.lit (.bool true)], args := [d1, d2, d3] }
  | _ => none }
def macDerivesRow : OpenClaim := { program := "ytelhajoedlaohaadoor", sum := "45085e59985d63654dd0ecd8a99f7dbadd5a7696c41d0f648a98532612ce21aa", func := "precinct/precinctlaw05.MacDerives", spec := "macDerives", inPlace := ["internal/abi.NoEscape", "internal/bytealg.MakeNoZero"], recurses := true, named := ["precinct/sha.round"], apart := false, laid := [("precinct/sha.round", laid_precinct_sha_round)] }
def MacDerivesSaid : Prop := macDerivesRow.holds Tryd.pinned (OpenSpec.ofChange macDerivesSpec)

/-- ITS FALSE NEIGHBOUR: 'it returns false'. Refute it at one input. -/
def macDerivesWrong : ChangeSpec := { name := "macDerives", fn := fun _ => fun
  | [d1, d2, d3] => { results := [.lit (.bool false)], args := [d1, d2, d3] }
  | _ => none }
def MacDerivesWrongFalsely : Prop := macDerivesRow.holds Tryd.pinned (OpenSpec.ofChange macDerivesWrong)

/- THE SECOND FORM. 'bulk': how many values and letters a reading holds, each counted each time it is reached (what is shared counts as often as it is met; a slice's spare places count too). A statement '..UptoSaid' is the law's where the arguments, and the package variables that the reading takes, are together of bulk at most 1048576: NARROWER than '..Said'. Prove '..Said' where nothing that the law and all that it calls make is longer than what came in: it says more and counts as full. Else prove '..UptoSaid'. A law counts once. -/
mutual
def uptoBulk {H : Type} : DataW H → Nat
  | .lit (.string bytes) => bytes.length + 1
  | .lit _ => 1
  | .nil => 1
  | .ptr d => uptoBulk d + 1
  | .slice elems spare => uptoBulkAll elems + uptoBulkAll spare + 1
  | .agg parts => uptoBulkAll parts + 1
  | .iface _ d => uptoBulk d + 1
  | .map entries => uptoBulkEntries entries + 1
  | .held _ => 1
def uptoBulkAll {H : Type} : List (DataW H) → Nat
  | [] => 0
  | d :: r => uptoBulk d + uptoBulkAll r
def uptoBulkEntries {H : Type} : List (Lit × DataW H) → Nat
  | [] => 0
  | x :: r => uptoBulkEntry x + uptoBulkEntries r
def uptoBulkEntry {H : Type} : Lit × DataW H → Nat
  | (.string bytes, d) => bytes.length + uptoBulk d + 1
  | (_, d) => uptoBulk d + 1
 end
def uptoSmall : (H : Type) → List (DataW H) → Bool := fun _ ds => decide (uptoBulkAll ds ≤ 1048576)
def OpenSpec.upto (s : _root_.Go.ChangeSpec) : _root_.Go.OpenSpec := { _root_.Go.OpenSpec.ofChange s with cond := some uptoSmall }

/-- 'precinctlaw04.ShaBlocks', WHERE WHAT IT READS IS OF BULK AT MOST 1048576: true; the input reads as it did. -/
def shaBlocksUptoRow : OpenClaim := { program := "ytelhajoedlaohaadoor", sum := "45085e59985d63654dd0ecd8a99f7dbadd5a7696c41d0f648a98532612ce21aa", func := "precinct/precinctlaw04.ShaBlocks", spec := "shaBlocks", named := ["precinct/sha.round"], apart := false, laid := [("precinct/sha.round", laid_precinct_sha_round)], narrowed := true }
def ShaBlocksUptoSaid : Prop := shaBlocksUptoRow.holds Tryd.pinned (OpenSpec.upto shaBlocksSpec)

/-- 'precinctlaw04.ShaSums', WHERE WHAT IT READS IS OF BULK AT MOST 1048576: true; the input reads as it did. -/
def shaSumsUptoRow : OpenClaim := { program := "ytelhajoedlaohaadoor", sum := "45085e59985d63654dd0ecd8a99f7dbadd5a7696c41d0f648a98532612ce21aa", func := "precinct/precinctlaw04.ShaSums", spec := "shaSums", inPlace := ["internal/abi.NoEscape", "internal/bytealg.MakeNoZero"], named := ["precinct/sha.round"], apart := false, laid := [("precinct/sha.round", laid_precinct_sha_round)], narrowed := true }
def ShaSumsUptoSaid : Prop := shaSumsUptoRow.holds Tryd.pinned (OpenSpec.upto shaSumsSpec)

/-- 'precinctlaw04.ShaWhole', WHERE WHAT IT READS IS OF BULK AT MOST 1048576: true; the input reads as it did. -/
def shaWholeUptoRow : OpenClaim := { program := "ytelhajoedlaohaadoor", sum := "45085e59985d63654dd0ecd8a99f7dbadd5a7696c41d0f648a98532612ce21aa", func := "precinct/precinctlaw04.ShaWhole", spec := "shaWhole", inPlace := ["internal/abi.NoEscape", "internal/bytealg.MakeNoZero"], named := ["precinct/sha.round"], apart := false, laid := [("precinct/sha.round", laid_precinct_sha_round)], narrowed := true }
def ShaWholeUptoSaid : Prop := shaWholeUptoRow.holds Tryd.pinned (OpenSpec.upto shaWholeSpec)

/-- 'precinctlaw05.MacLays', WHERE WHAT IT READS IS OF BULK AT MOST 1048576: true; the input reads as it did. -/
def macLaysUptoRow : OpenClaim := { program := "ytelhajoedlaohaadoor", sum := "45085e59985d63654dd0ecd8a99f7dbadd5a7696c41d0f648a98532612ce21aa", func := "precinct/precinctlaw05.MacLays", spec := "macLays", inPlace := ["internal/abi.NoEscape", "internal/bytealg.MakeNoZero"], named := ["precinct/sha.round"], apart := false, laid := [("precinct/sha.round", laid_precinct_sha_round)], narrowed := true }
def MacLaysUptoSaid : Prop := macLaysUptoRow.holds Tryd.pinned (OpenSpec.upto macLaysSpec)

/-- 'precinctlaw05.MacTags', WHERE WHAT IT READS IS OF BULK AT MOST 1048576: true; the input reads as it did. -/
def macTagsUptoRow : OpenClaim := { program := "ytelhajoedlaohaadoor", sum := "45085e59985d63654dd0ecd8a99f7dbadd5a7696c41d0f648a98532612ce21aa", func := "precinct/precinctlaw05.MacTags", spec := "macTags", inPlace := ["internal/abi.NoEscape", "internal/bytealg.MakeNoZero"], named := ["precinct/sha.round"], apart := false, laid := [("precinct/sha.round", laid_precinct_sha_round)], narrowed := true }
def MacTagsUptoSaid : Prop := macTagsUptoRow.holds Tryd.pinned (OpenSpec.upto macTagsSpec)

/-- 'precinctlaw05.MacWhole', WHERE WHAT IT READS IS OF BULK AT MOST 1048576: true; the input reads as it did. -/
def macWholeUptoRow : OpenClaim := { program := "ytelhajoedlaohaadoor", sum := "45085e59985d63654dd0ecd8a99f7dbadd5a7696c41d0f648a98532612ce21aa", func := "precinct/precinctlaw05.MacWhole", spec := "macWhole", inPlace := ["internal/abi.NoEscape", "internal/bytealg.MakeNoZero"], named := ["precinct/sha.round"], apart := false, laid := [("precinct/sha.round", laid_precinct_sha_round)], narrowed := true }
def MacWholeUptoSaid : Prop := macWholeUptoRow.holds Tryd.pinned (OpenSpec.upto macWholeSpec)

/-- 'precinctlaw05.MacDerives', WHERE WHAT IT READS IS OF BULK AT MOST 1048576: true; the input reads as it did. -/
def macDerivesUptoRow : OpenClaim := { program := "ytelhajoedlaohaadoor", sum := "45085e59985d63654dd0ecd8a99f7dbadd5a7696c41d0f648a98532612ce21aa", func := "precinct/precinctlaw05.MacDerives", spec := "macDerives", inPlace := ["internal/abi.NoEscape", "internal/bytealg.MakeNoZero"], recurses := true, named := ["precinct/sha.round"], apart := false, laid := [("precinct/sha.round", laid_precinct_sha_round)], narrowed := true }
def MacDerivesUptoSaid : Prop := macDerivesUptoRow.holds Tryd.pinned (OpenSpec.upto macDerivesSpec)

end Rows
end Go.Proofs.YtelhajoedlaohaaDoor
