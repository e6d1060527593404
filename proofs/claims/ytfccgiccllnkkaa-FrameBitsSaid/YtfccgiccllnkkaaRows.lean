/-
  No cell of these rows narrows 'for every input' (looked for: loops, veiled, ifaces, maps, wideKeys, modest, calm, conditions, laid).
  DERIVED. THE GIVEN ROWS OF THIS SEAT. 14 by the template 'for every input the law returns true; each argument reads behind the call as it read before'; 0 by the template 'total and deterministic' (their statements: YtfccgiccllnkkaaTotals.lean).
  GIVEN WITH THE SEED: the statements are not yours to turn. If you find one false, say at which input.
  Laid BY PROGRAM, IN A SANDBOX (cutbox-rows.mjs): the forced cells as the released guide's own fill.sh prints them over the translation 62e5ea673883c5e8… (all of the seat's roots in one cut). By AI agents, Wed Nov 11 2026. No macro, syntax, notation, axiom, sorry.
-/
import Derived.Test.YtfccgiccllnkkaaChecked
import GoSem.Claim
import GoSem.ClaimJoined
import GoSem.ClaimMapViews
import Derived.JoinedTies
import Derived.KernelRfl
namespace Go.Proofs.Ytfccgiccllnkkaa
/- THE CELL 'sum', in the pinned program and in every row, IS THE sha256 OF THE DUMP (.gsa) THAT YtfccgiccllnkkaaProg.lean LOADS. Nothing in Lean hashes anything: it is a label: what it is worth is what the hold of that sum in a sandbox is worth. -/
noncomputable def Try.pinned : Pinned := { name := "ytfccgiccllnkkaa", sum := "62e5ea673883c5e8e5f1fd7ac05a4eeac6cf174c672530936781510eb0e702d3", checked := Try.checked }
namespace Rows
def none {H : Type} : Left H := { results := [], args := [] }

/-- 'precinctlaw01.WordsFolds': WHATEVER THE INPUT: true; the input reads as it did. -/
def wordsFoldsSpec : ChangeSpec := { name := "wordsFolds", fn := fun _ => fun
  | [d1, d2] => { results := [.lit (.bool true)], args := [d1, d2] }
  | _ => none }
def wordsFoldsRow : OpenClaim := { program := "ytfccgiccllnkkaa", sum := "62e5ea673883c5e8e5f1fd7ac05a4eeac6cf174c672530936781510eb0e702d3", func := "precinct/precinctlaw01.WordsFolds", spec := "wordsFolds", apart := false }
def WordsFoldsSaid : Prop := wordsFoldsRow.holds Try.pinned (OpenSpec.ofChange wordsFoldsSpec)

/-- ITS FALSE NEIGHBOUR: 'it returns false'. Refute it at one input. -/
def wordsFoldsWrong : ChangeSpec := { name := "wordsFolds", fn := fun _ => fun
  | [d1, d2] => { results := [.lit (.bool false)], args := [d1, d2] }
  | _ => none }
def WordsFoldsWrongFalsely : Prop := wordsFoldsRow.holds Try.pinned (OpenSpec.ofChange wordsFoldsWrong)

/-- 'precinctlaw01.WordsNarrows': WHATEVER THE INPUT: true; the input reads as it did. -/
def wordsNarrowsSpec : ChangeSpec := { name := "wordsNarrows", fn := fun _ => fun
  | [d1, d2] => { results := [.lit (.bool true)], args := [d1, d2] }
  | _ => none }
def wordsNarrowsRow : OpenClaim := { program := "ytfccgiccllnkkaa", sum := "62e5ea673883c5e8e5f1fd7ac05a4eeac6cf174c672530936781510eb0e702d3", func := "precinct/precinctlaw01.WordsNarrows", spec := "wordsNarrows", apart := false }
def WordsNarrowsSaid : Prop := wordsNarrowsRow.holds Try.pinned (OpenSpec.ofChange wordsNarrowsSpec)

/-- ITS FALSE NEIGHBOUR: 'it returns false'. Refute it at one input. -/
def wordsNarrowsWrong : ChangeSpec := { name := "wordsNarrows", fn := fun _ => fun
  | [d1, d2] => { results := [.lit (.bool false)], args := [d1, d2] }
  | _ => none }
def WordsNarrowsWrongFalsely : Prop := wordsNarrowsRow.holds Try.pinned (OpenSpec.ofChange wordsNarrowsWrong)

/-- 'precinctlaw01.WordsRotates': WHATEVER THE INPUT: true; the input reads as it did. -/
def wordsRotatesSpec : ChangeSpec := { name := "wordsRotates", fn := fun _ => fun
  | [d1, d2] => { results := [.lit (.bool true)], args := [d1, d2] }
  | _ => none }
def wordsRotatesRow : OpenClaim := { program := "ytfccgiccllnkkaa", sum := "62e5ea673883c5e8e5f1fd7ac05a4eeac6cf174c672530936781510eb0e702d3", func := "precinct/precinctlaw01.WordsRotates", spec := "wordsRotates", apart := false }
def WordsRotatesSaid : Prop := wordsRotatesRow.holds Try.pinned (OpenSpec.ofChange wordsRotatesSpec)

/-- ITS FALSE NEIGHBOUR: 'it returns false'. Refute it at one input. -/
def wordsRotatesWrong : ChangeSpec := { name := "wordsRotates", fn := fun _ => fun
  | [d1, d2] => { results := [.lit (.bool false)], args := [d1, d2] }
  | _ => none }
def WordsRotatesWrongFalsely : Prop := wordsRotatesRow.holds Try.pinned (OpenSpec.ofChange wordsRotatesWrong)

/-- 'precinctlaw01.WordsPuts': WHATEVER THE INPUT: true; the input reads as it did. -/
def wordsPutsSpec : ChangeSpec := { name := "wordsPuts", fn := fun _ => fun
  | [d1, d2] => { results := [.lit (.bool true)], args := [d1, d2] }
  | _ => none }
def wordsPutsRow : OpenClaim := { program := "ytfccgiccllnkkaa", sum := "62e5ea673883c5e8e5f1fd7ac05a4eeac6cf174c672530936781510eb0e702d3", func := "precinct/precinctlaw01.WordsPuts", spec := "wordsPuts", apart := false }
def WordsPutsSaid : Prop := wordsPutsRow.holds Try.pinned (OpenSpec.ofChange wordsPutsSpec)

/-- ITS FALSE NEIGHBOUR: 'it returns false'. Refute it at one input. -/
def wordsPutsWrong : ChangeSpec := { name := "wordsPuts", fn := fun _ => fun
  | [d1, d2] => { results := [.lit (.bool false)], args := [d1, d2] }
  | _ => none }
def WordsPutsWrongFalsely : Prop := wordsPutsRow.holds Try.pinned (OpenSpec.ofChange wordsPutsWrong)

/-- 'precinctlaw03.FrameSums': WHATEVER THE INPUT: true; the input reads as it did. -/
def frameSumsSpec : ChangeSpec := { name := "frameSums", fn := fun _ => fun
  | [d] => { results := [.lit (.bool true)], args := [d] }
  | _ => none }
def frameSumsRow : OpenClaim := { program := "ytfccgiccllnkkaa", sum := "62e5ea673883c5e8e5f1fd7ac05a4eeac6cf174c672530936781510eb0e702d3", func := "precinct/precinctlaw03.FrameSums", spec := "frameSums", apart := false }
def FrameSumsSaid : Prop := frameSumsRow.holds Try.pinned (OpenSpec.ofChange frameSumsSpec)

/-- ITS FALSE NEIGHBOUR: 'it returns false'. Refute it at one input. -/
def frameSumsWrong : ChangeSpec := { name := "frameSums", fn := fun _ => fun
  | [d] => { results := [.lit (.bool false)], args := [d] }
  | _ => none }
def FrameSumsWrongFalsely : Prop := frameSumsRow.holds Try.pinned (OpenSpec.ofChange frameSumsWrong)

/-- 'precinctlaw01.WordsBits': WHATEVER THE INPUT: true; the input reads as it did. -/
def wordsBitsSpec : ChangeSpec := { name := "wordsBits", fn := fun _ => fun
  | [d1, d2, d3] => { results := [.lit (.bool true)], args := [d1, d2, d3] }
  | _ => none }
def wordsBitsRow : OpenClaim := { program := "ytfccgiccllnkkaa", sum := "62e5ea673883c5e8e5f1fd7ac05a4eeac6cf174c672530936781510eb0e702d3", func := "precinct/precinctlaw01.WordsBits", spec := "wordsBits", apart := false }
def WordsBitsSaid : Prop := wordsBitsRow.holds Try.pinned (OpenSpec.ofChange wordsBitsSpec)

/-- ITS FALSE NEIGHBOUR: 'it returns false'. Refute it at one input. -/
def wordsBitsWrong : ChangeSpec := { name := "wordsBits", fn := fun _ => fun
  | [d1, d2, d3] => { results := [.lit (.bool false)], args := [d1, d2, d3] }
  | _ => none }
def WordsBitsWrongFalsely : Prop := wordsBitsRow.holds Try.pinned (OpenSpec.ofChange wordsBitsWrong)

/-- 'precinctlaw01.WordsGets': WHATEVER THE INPUT: true; the input reads as it did. -/
def wordsGetsSpec : ChangeSpec := { name := "wordsGets", fn := fun _ => fun
  | [d1, d2, d3] => { results := [.lit (.bool true)], args := [d1, d2, d3] }
  | _ => none }
def wordsGetsRow : OpenClaim := { program := "ytfccgiccllnkkaa", sum := "62e5ea673883c5e8e5f1fd7ac05a4eeac6cf174c672530936781510eb0e702d3", func := "precinct/precinctlaw01.WordsGets", spec := "wordsGets", apart := false }
def WordsGetsSaid : Prop := wordsGetsRow.holds Try.pinned (OpenSpec.ofChange wordsGetsSpec)

/-- ITS FALSE NEIGHBOUR: 'it returns false'. Refute it at one input. -/
def wordsGetsWrong : ChangeSpec := { name := "wordsGets", fn := fun _ => fun
  | [d1, d2, d3] => { results := [.lit (.bool false)], args := [d1, d2, d3] }
  | _ => none }
def WordsGetsWrongFalsely : Prop := wordsGetsRow.holds Try.pinned (OpenSpec.ofChange wordsGetsWrong)

/-- 'precinctlaw01.WordsTexts': WHATEVER THE INPUT: true; the input reads as it did. -/
def wordsTextsSpec : ChangeSpec := { name := "wordsTexts", fn := fun _ => fun
  | [d1, d2, d3] => { results := [.lit (.bool true)], args := [d1, d2, d3] }
  | _ => none }
def wordsTextsRow : OpenClaim := { program := "ytfccgiccllnkkaa", sum := "62e5ea673883c5e8e5f1fd7ac05a4eeac6cf174c672530936781510eb0e702d3", func := "precinct/precinctlaw01.WordsTexts", spec := "wordsTexts", apart := false }
def WordsTextsSaid : Prop := wordsTextsRow.holds Try.pinned (OpenSpec.ofChange wordsTextsSpec)

/-- ITS FALSE NEIGHBOUR: 'it returns false'. Refute it at one input. -/
def wordsTextsWrong : ChangeSpec := { name := "wordsTexts", fn := fun _ => fun
  | [d1, d2, d3] => { results := [.lit (.bool false)], args := [d1, d2, d3] }
  | _ => none }
def WordsTextsWrongFalsely : Prop := wordsTextsRow.holds Try.pinned (OpenSpec.ofChange wordsTextsWrong)

/-- 'precinctlaw01.WordsBack': WHATEVER THE INPUT: true; the input reads as it did. -/
def wordsBackSpec : ChangeSpec := { name := "wordsBack", fn := fun _ => fun
  | [d1, d2] => { results := [.lit (.bool true)], args := [d1, d2] }
  | _ => none }
def wordsBackRow : OpenClaim := { program := "ytfccgiccllnkkaa", sum := "62e5ea673883c5e8e5f1fd7ac05a4eeac6cf174c672530936781510eb0e702d3", func := "precinct/precinctlaw01.WordsBack", spec := "wordsBack", apart := false }
def WordsBackSaid : Prop := wordsBackRow.holds Try.pinned (OpenSpec.ofChange wordsBackSpec)

/-- ITS FALSE NEIGHBOUR: 'it returns false'. Refute it at one input. -/
def wordsBackWrong : ChangeSpec := { name := "wordsBack", fn := fun _ => fun
  | [d1, d2] => { results := [.lit (.bool false)], args := [d1, d2] }
  | _ => none }
def WordsBackWrongFalsely : Prop := wordsBackRow.holds Try.pinned (OpenSpec.ofChange wordsBackWrong)

/-- 'precinctlaw03.FramePuts': WHATEVER THE INPUT: true; the input reads as it did. -/
def framePutsSpec : ChangeSpec := { name := "framePuts", fn := fun _ => fun
  | [d] => { results := [.lit (.bool true)], args := [d] }
  | _ => none }
def framePutsRow : OpenClaim := { program := "ytfccgiccllnkkaa", sum := "62e5ea673883c5e8e5f1fd7ac05a4eeac6cf174c672530936781510eb0e702d3", func := "precinct/precinctlaw03.FramePuts", spec := "framePuts", apart := false }
def FramePutsSaid : Prop := framePutsRow.holds Try.pinned (OpenSpec.ofChange framePutsSpec)

/-- ITS FALSE NEIGHBOUR: 'it returns false'. Refute it at one input. -/
def framePutsWrong : ChangeSpec := { name := "framePuts", fn := fun _ => fun
  | [d] => { results := [.lit (.bool false)], args := [d] }
  | _ => none }
def FramePutsWrongFalsely : Prop := framePutsRow.holds Try.pinned (OpenSpec.ofChange framePutsWrong)

/-- 'precinctlaw03.FrameGets': WHATEVER THE INPUT: true; the input reads as it did. -/
def frameGetsSpec : ChangeSpec := { name := "frameGets", fn := fun _ => fun
  | [d1, d2] => { results := [.lit (.bool true)], args := [d1, d2] }
  | _ => none }
def frameGetsRow : OpenClaim := { program := "ytfccgiccllnkkaa", sum := "62e5ea673883c5e8e5f1fd7ac05a4eeac6cf174c672530936781510eb0e702d3", func := "precinct/precinctlaw03.FrameGets", spec := "frameGets", apart := false }
def FrameGetsSaid : Prop := frameGetsRow.holds Try.pinned (OpenSpec.ofChange frameGetsSpec)

/-- ITS FALSE NEIGHBOUR: 'it returns false'. Refute it at one input. -/
def frameGetsWrong : ChangeSpec := { name := "frameGets", fn := fun _ => fun
  | [d1, d2] => { results := [.lit (.bool false)], args := [d1, d2] }
  | _ => none }
def FrameGetsWrongFalsely : Prop := frameGetsRow.holds Try.pinned (OpenSpec.ofChange frameGetsWrong)

/-- 'precinctlaw03.FrameAlls': WHATEVER THE INPUT: true; the input reads as it did. -/
def frameAllsSpec : ChangeSpec := { name := "frameAlls", fn := fun _ => fun
  | [d] => { results := [.lit (.bool true)], args := [d] }
  | _ => none }
def frameAllsRow : OpenClaim := { program := "ytfccgiccllnkkaa", sum := "62e5ea673883c5e8e5f1fd7ac05a4eeac6cf174c672530936781510eb0e702d3", func := "precinct/precinctlaw03.FrameAlls", spec := "frameAlls", apart := false }
def FrameAllsSaid : Prop := frameAllsRow.holds Try.pinned (OpenSpec.ofChange frameAllsSpec)

/-- ITS FALSE NEIGHBOUR: 'it returns false'. Refute it at one input. -/
def frameAllsWrong : ChangeSpec := { name := "frameAlls", fn := fun _ => fun
  | [d] => { results := [.lit (.bool false)], args := [d] }
  | _ => none }
def FrameAllsWrongFalsely : Prop := frameAllsRow.holds Try.pinned (OpenSpec.ofChange frameAllsWrong)

/-- 'precinctlaw03.FrameBack': WHATEVER THE INPUT: true; the input reads as it did. -/
def frameBackSpec : ChangeSpec := { name := "frameBack", fn := fun _ => fun
  | [d1, d2] => { results := [.lit (.bool true)], args := [d1, d2] }
  | _ => none }
def frameBackRow : OpenClaim := { program := "ytfccgiccllnkkaa", sum := "62e5ea673883c5e8e5f1fd7ac05a4eeac6cf174c672530936781510eb0e702d3", func := "precinct/precinctlaw03.FrameBack", spec := "frameBack", apart := false }
def FrameBackSaid : Prop := frameBackRow.holds Try.pinned (OpenSpec.ofChange frameBackSpec)

/-- ITS FALSE NEIGHBOUR: 'it returns false'. Refute it at one input. -/
def frameBackWrong : ChangeSpec := { name := "frameBack", fn := fun _ => fun
  | [d1, d2] => { results := [.lit (.bool false)], args := [d1, d2] }
  | _ => none }
def FrameBackWrongFalsely : Prop := frameBackRow.holds Try.pinned (OpenSpec.ofChange frameBackWrong)

/-- 'precinctlaw03.FrameBits': WHATEVER THE INPUT: true; the input reads as it did. -/
def frameBitsSpec : ChangeSpec := { name := "frameBits", fn := fun _ => fun
  | [d1, d2, d3] => { results := [.lit (.bool true)], args := [d1, d2, d3] }
  | _ => none }
def frameBitsRow : OpenClaim := { program := "ytfccgiccllnkkaa", sum := "62e5ea673883c5e8e5f1fd7ac05a4eeac6cf174c672530936781510eb0e702d3", func := "precinct/precinctlaw03.FrameBits", spec := "frameBits", apart := false }
def FrameBitsSaid : Prop := frameBitsRow.holds Try.pinned (OpenSpec.ofChange frameBitsSpec)

/-- ITS FALSE NEIGHBOUR: 'it returns false'. Refute it at one input. -/
def frameBitsWrong : ChangeSpec := { name := "frameBits", fn := fun _ => fun
  | [d1, d2, d3] => { results := [.lit (.bool false)], args := [d1, d2, d3] }
  | _ => none }
def FrameBitsWrongFalsely : Prop := frameBitsRow.holds Try.pinned (OpenSpec.ofChange frameBitsWrong)

/- THE SECOND FORM. 'bulk': how many values and letters a reading holds, each counted each time it is reached (what is shared counts as often as it is met; a slice's spare places count too). A statement '..UptoSaid' is the law's where the arguments, and the package variables that the reading takes, are together of bulk at most 1048576: NARROWER than '..Said'. Prove '..Said' where nothing that the law and all that it calls make is longer than what came in: it says more and counts as full. Else prove '..UptoSaid'. A law counts once. -/
mutual
def uptoBulk {H : Type} : DataW H → Nat
  | .lit (.string bytes) => bytes.length + 1
  | .lit _ => 1
  | .nil => 1
  | .ptr d => uptoBulk d + 1
  | .slice elems spare => uptoBulkAll elems + uptoBulkAll spare + 1
  | .agg parts => uptoBulkAll parts + 1
  | .iface _ d => uptoBulk d + 1
  | .map entries => uptoBulkEntries entries + 1
  | .held _ => 1
def uptoBulkAll {H : Type} : List (DataW H) → Nat
  | [] => 0
  | d :: r => uptoBulk d + uptoBulkAll r
def uptoBulkEntries {H : Type} : List (Lit × DataW H) → Nat
  | [] => 0
  | x :: r => uptoBulkEntry x + uptoBulkEntries r
def uptoBulkEntry {H : Type} : Lit × DataW H → Nat
  | (.string bytes, d) => bytes.length + uptoBulk d + 1
  | (_, d) => uptoBulk d + 1
 end
def uptoSmall : (H : Type) → List (DataW H) → Bool := fun _ ds => decide (uptoBulkAll ds ≤ 1048576)
def OpenSpec.upto (s : _root_.Go.ChangeSpec) : _root_.Go.OpenSpec := { _root_.Go.OpenSpec.ofChange s with cond := some uptoSmall }

/-- 'precinctlaw01.WordsFolds', WHERE WHAT IT READS IS OF BULK AT MOST 1048576: true; the input reads as it did. -/
def wordsFoldsUptoRow : OpenClaim := { program := "ytfccgiccllnkkaa", sum := "62e5ea673883c5e8e5f1fd7ac05a4eeac6cf174c672530936781510eb0e702d3", func := "precinct/precinctlaw01.WordsFolds", spec := "wordsFolds", apart := false, narrowed := true }
def WordsFoldsUptoSaid : Prop := wordsFoldsUptoRow.holds Try.pinned (OpenSpec.upto wordsFoldsSpec)

/-- 'precinctlaw01.WordsNarrows', WHERE WHAT IT READS IS OF BULK AT MOST 1048576: true; the input reads as it did. -/
def wordsNarrowsUptoRow : OpenClaim := { program := "ytfccgiccllnkkaa", sum := "62e5ea673883c5e8e5f1fd7ac05a4eeac6cf174c672530936781510eb0e702d3", func := "precinct/precinctlaw01.WordsNarrows", spec := "wordsNarrows", apart := false, narrowed := true }
def WordsNarrowsUptoSaid : Prop := wordsNarrowsUptoRow.holds Try.pinned (OpenSpec.upto wordsNarrowsSpec)

/-- 'precinctlaw01.WordsRotates', WHERE WHAT IT READS IS OF BULK AT MOST 1048576: true; the input reads as it did. -/
def wordsRotatesUptoRow : OpenClaim := { program := "ytfccgiccllnkkaa", sum := "62e5ea673883c5e8e5f1fd7ac05a4eeac6cf174c672530936781510eb0e702d3", func := "precinct/precinctlaw01.WordsRotates", spec := "wordsRotates", apart := false, narrowed := true }
def WordsRotatesUptoSaid : Prop := wordsRotatesUptoRow.holds Try.pinned (OpenSpec.upto wordsRotatesSpec)

/-- 'precinctlaw01.WordsPuts', WHERE WHAT IT READS IS OF BULK AT MOST 1048576: true; the input reads as it did. -/
def wordsPutsUptoRow : OpenClaim := { program := "ytfccgiccllnkkaa", sum := "62e5ea673883c5e8e5f1fd7ac05a4eeac6cf174c672530936781510eb0e702d3", func := "precinct/precinctlaw01.WordsPuts", spec := "wordsPuts", apart := false, narrowed := true }
def WordsPutsUptoSaid : Prop := wordsPutsUptoRow.holds Try.pinned (OpenSpec.upto wordsPutsSpec)

/-- 'precinctlaw03.FrameSums', WHERE WHAT IT READS IS OF BULK AT MOST 1048576: true; the input reads as it did. -/
def frameSumsUptoRow : OpenClaim := { program := "ytfccgiccllnkkaa", sum := "62e5ea673883c5e8e5f1fd7ac05a4eeac6cf174c672530936781510eb0e702d3", func := "precinct/precinctlaw03.FrameSums", spec := "frameSums", apart := false, narrowed := true }
def FrameSumsUptoSaid : Prop := frameSumsUptoRow.holds Try.pinned (OpenSpec.upto frameSumsSpec)

/-- 'precinctlaw01.WordsBits', WHERE WHAT IT READS IS OF BULK AT MOST 1048576: true; the input reads as it did. -/
def wordsBitsUptoRow : OpenClaim := { program := "ytfccgiccllnkkaa", sum := "62e5ea673883c5e8e5f1fd7ac05a4eeac6cf174c672530936781510eb0e702d3", func := "precinct/precinctlaw01.WordsBits", spec := "wordsBits", apart := false, narrowed := true }
def WordsBitsUptoSaid : Prop := wordsBitsUptoRow.holds Try.pinned (OpenSpec.upto wordsBitsSpec)

/-- 'precinctlaw01.WordsGets', WHERE WHAT IT READS IS OF BULK AT MOST 1048576: true; the input reads as it did. -/
def wordsGetsUptoRow : OpenClaim := { program := "ytfccgiccllnkkaa", sum := "62e5ea673883c5e8e5f1fd7ac05a4eeac6cf174c672530936781510eb0e702d3", func := "precinct/precinctlaw01.WordsGets", spec := "wordsGets", apart := false, narrowed := true }
def WordsGetsUptoSaid : Prop := wordsGetsUptoRow.holds Try.pinned (OpenSpec.upto wordsGetsSpec)

/-- 'precinctlaw01.WordsTexts', WHERE WHAT IT READS IS OF BULK AT MOST 1048576: true; the input reads as it did. -/
def wordsTextsUptoRow : OpenClaim := { program := "ytfccgiccllnkkaa", sum := "62e5ea673883c5e8e5f1fd7ac05a4eeac6cf174c672530936781510eb0e702d3", func := "precinct/precinctlaw01.WordsTexts", spec := "wordsTexts", apart := false, narrowed := true }
def WordsTextsUptoSaid : Prop := wordsTextsUptoRow.holds Try.pinned (OpenSpec.upto wordsTextsSpec)

/-- 'precinctlaw01.WordsBack', WHERE WHAT IT READS IS OF BULK AT MOST 1048576: true; the input reads as it did. -/
def wordsBackUptoRow : OpenClaim := { program := "ytfccgiccllnkkaa", sum := "62e5ea673883c5e8e5f1fd7ac05a4eeac6cf174c672530936781510eb0e702d3", func := "precinct/precinctlaw01.WordsBack", spec := "wordsBack", apart := false, narrowed := true }
def WordsBackUptoSaid : Prop := wordsBackUptoRow.holds Try.pinned (OpenSpec.upto wordsBackSpec)

/-- 'precinctlaw03.FramePuts', WHERE WHAT IT READS IS OF BULK AT MOST 1048576: true; the input reads as it did. -/
def framePutsUptoRow : OpenClaim := { program := "ytfccgiccllnkkaa", sum := "62e5ea673883c5e8e5f1fd7ac05a4eeac6cf174c672530936781510eb0e702d3", func := "precinct/precinctlaw03.FramePuts", spec := "framePuts", apart := false, narrowed := true }
def FramePutsUptoSaid : Prop := framePutsUptoRow.holds Try.pinned (OpenSpec.upto framePutsSpec)

/-- 'precinctlaw03.FrameGets', WHERE WHAT IT READS IS OF BULK AT MOST 1048576: true; the input reads as it did. -/
def frameGetsUptoRow : OpenClaim := { program := "ytfccgiccllnkkaa", sum := "62e5ea673883c5e8e5f1fd7ac05a4eeac6cf174c672530936781510eb0e702d3", func := "precinct/precinctlaw03.FrameGets", spec := "frameGets", apart := false, narrowed := true }
def FrameGetsUptoSaid : Prop := frameGetsUptoRow.holds Try.pinned (OpenSpec.upto frameGetsSpec)

/-- 'precinctlaw03.FrameAlls', WHERE WHAT IT READS IS OF BULK AT MOST 1048576: true; the input reads as it did. -/
def frameAllsUptoRow : OpenClaim := { program := "ytfccgiccllnkkaa", sum := "62e5ea673883c5e8e5f1fd7ac05a4eeac6cf174c672530936781510eb0e702d3", func := "precinct/precinctlaw03.FrameAlls", spec := "frameAlls", apart := false, narrowed := true }
def FrameAllsUptoSaid : Prop := frameAllsUptoRow.holds Try.pinned (OpenSpec.upto frameAllsSpec)

/-- 'precinctlaw03.FrameBack', WHERE WHAT IT READS IS OF BULK AT MOST 1048576: true; the input reads as it did. -/
def frameBackUptoRow : OpenClaim := { program := "ytfccgiccllnkkaa", sum := "62e5ea673883c5e8e5f1fd7ac05a4eeac6cf174c672530936781510eb0e702d3", func := "precinct/precinctlaw03.FrameBack", spec := "frameBack", apart := false, narrowed := true }
def FrameBackUptoSaid : Prop := frameBackUptoRow.holds Try.pinned (OpenSpec.upto frameBackSpec)

/-- 'precinctlaw03.FrameBits', WHERE WHAT IT READS IS OF BULK AT MOST 1048576: true; the input reads as it did. -/
def frameBitsUptoRow : OpenClaim := { program := "ytfccgiccllnkkaa", sum := "62e5ea673883c5e8e5f1fd7ac05a4eeac6cf174c672530936781510eb0e702d3", func := "precinct/precinctlaw03.FrameBits", spec := "frameBits", apart := false, narrowed := true }
def FrameBitsUptoSaid : Prop := frameBitsUptoRow.holds Try.pinned (OpenSpec.upto frameBitsSpec)

end Rows
end Go.Proofs.Ytfccgiccllnkkaa
