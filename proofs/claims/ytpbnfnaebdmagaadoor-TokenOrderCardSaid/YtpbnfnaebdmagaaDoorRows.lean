/-
  NARROWER THAN 'FOR EVERY INPUT', by the rows' own cells (each row's printed sentence says how): TokenParses: laid · TokenMints: laid · TokenVerifies: laid · TokenBack: laid · TokenBits: laid · TokenOrder: laid.
  DERIVED. THE GIVEN ROWS OF THIS SEAT. 6 by the template 'for every input the law returns true; each argument reads behind the call as it read before'; 0 by the template 'total and deterministic' (their statements: YtpbnfnaebdmagaaDoorTotals.lean).
  GIVEN WITH THE SEED: the statements are not yours to turn. If you find one false, say at which input.
  Laid BY PROGRAM, IN A SANDBOX (cutbox-rows.mjs): the forced cells as the released guide's own fill.sh prints them over the translation 427aade54dab2df4… (all of the seat's roots in one cut). By AI agents, Wed Nov 11 2026. No macro, syntax, notation, axiom, sorry.
-/
import Derived.Test.YtpbnfnaebdmagaaDoorChecked
import GoSem.Claim
import GoSem.ClaimJoined
import GoSem.ClaimMapViews
import Derived.JoinedTies
import Derived.KernelRfl
namespace Go.Proofs.YtpbnfnaebdmagaaDoor
/- THE CELL 'sum', in the pinned program and in every row, IS THE sha256 OF THE DUMP (.gsa) THAT YtpbnfnaebdmagaaDoorProg.lean LOADS. Nothing in Lean hashes anything: it is a label: what it is worth is what the hold of that sum in a sandbox is worth. -/
noncomputable def Tryd.pinned : Pinned := { name := "ytpbnfnaebdmagaadoor", sum := "427aade54dab2df4cf4a7ad597b94d8d83aeb71a034a36057fec7743734c39a7", checked := Tryd.checked }
namespace Rows
def none {H : Type} : Left H := { results := [], args := [] }

/- WHAT THE LISTED PACKAGE-LEVEL VARIABLES READ AS WHEN THE CALL BEGINS. Each datum BY PROGRAM (the guide's laid-datum.mjs) off the statement by which the dump's own 'gosem.cut.vars' lays the variable. In a bare row this is a premise. The card (YtpbnfnaebdmagaaDoorCards.lean) ties it to the program's text. -/
def laid_precinct_sha_round {H : Type} : DataW H := .agg [.lit (.int .u32 1116352408), .lit (.int .u32 1899447441), .lit (.int .u32 3049323471), .lit (.int .u32 3921009573), .lit (.int .u32 961987163), .lit (.int .u32 1508970993), .lit (.int .u32 2453635748), .lit (.int .u32 2870763221), .lit (.int .u32 3624381080), .lit (.int .u32 310598401), .lit (.int .u32 607225278), .lit (.int .u32 1426881987), .lit (.int .u32 1925078388), .lit (.int .u32 2162078206), .lit (.int .u32 2614888103), .lit (.int .u32 3248222580), .lit (.int .u32 3835390401), .lit (.int .u32 4022224774), .lit (.int .u32 264347078), .lit (.int .u32 604807628), .lit (.int .u32 770255983), .lit (.int .u32 1249150122), .lit (.int .u32 1555081692), .lit (.int .u32 1996064986), .lit (.int .u32 2554220882), .lit (.int .u32 2821834349), .lit (.int .u32 2952996808), .lit (.int .u32 3210313671), .lit (.int .u32 3336571891), .lit (.int .u32 3584528711), .lit (.int .u32 113926993), .lit (.int .u32 338241895), .lit (.int .u32 666307205), .lit (.int .u32 773529912), .lit (.int .u32 1294757372), .lit (.int .u32 1396182291), .lit (.int .u32 1695183700), .lit (.int .u32 1986661051), .lit (.int .u32 2177026350), .lit (.int .u32 2456956037), .lit (.int .u32 2730485921), .lit (.int .u32 2820302411), .lit (.int .u32 3259730800), .lit (.int .u32 3345764771), .lit (.int .u32 3516065817), .lit (.int .u32 3600352804), .lit (.int .u32 4094571909), .lit (.int .u32 275423344), .lit (.int .u32 430227734), .lit (.int .u32 506948616), .lit (.int .u32 659060556), .lit (.int .u32 883997877), .lit (.int .u32 958139571), .lit (.int .u32 1322822218), .lit (.int .u32 1537002063), .lit (.int .u32 1747873779), .lit (.int .u32 1955562222), .lit (.int .u32 2024104815), .lit (.int .u32 2227730452), .lit (.int .u32 2361852424), .lit (.int .u32 2428436474), .lit (.int .u32 2756734187), .lit (.int .u32 3204031479), .lit (.int .u32 3329325298)]

/-- 'precinctlaw09.TokenParses': WHATEVER THE INPUT: true; the input reads as it did. -/
def tokenParsesSpec : ChangeSpec := { name := "tokenParses", fn := fun _ => fun
  | [d] => { results := [.lit (.bool true)], args := [d] }
  | _ => none }
def tokenParsesRow : OpenClaim := { program := "ytpbnfnaebdmagaadoor", sum := "427aade54dab2df4cf4a7ad597b94d8d83aeb71a034a36057fec7743734c39a7", func := "precinct/precinctlaw09.TokenParses", spec := "tokenParses", inPlace := ["internal/abi.NoEscape", "internal/bytealg.MakeNoZero"], unfollowed := true, recurses := true, named := ["precinct/sha.round"], apart := false, laid := [("precinct/sha.round", laid_precinct_sha_round)] }
def TokenParsesSaid : Prop := tokenParsesRow.holds Tryd.pinned (OpenSpec.ofChange tokenParsesSpec)

/-- ITS FALSE NEIGHBOUR: 'it returns false'. Refute it at one input. -/
def tokenParsesWrong : ChangeSpec := { name := "tokenParses", fn := fun _ => fun
  | [d] => { results := [.lit (.bool false)], args := [d] }
  | _ => none }
def TokenParsesWrongFalsely : Prop := tokenParsesRow.holds Tryd.pinned (OpenSpec.ofChange tokenParsesWrong)

/-- 'precinctlaw09.TokenMints': WHATEVER THE INPUT: true; the input reads as it did. -/
def tokenMintsSpec : ChangeSpec := { name := "tokenMints", fn := fun _ => fun
  | [d1, d2, d3] => { results := [.lit (.bool true)], args := [d1, d2, d3] }
  | _ => none }
def tokenMintsRow : OpenClaim := { program := "ytpbnfnaebdmagaadoor", sum := "427aade54dab2df4cf4a7ad597b94d8d83aeb71a034a36057fec7743734c39a7", func := "precinct/precinctlaw09.TokenMints", spec := "tokenMints", inPlace := ["internal/abi.NoEscape", "internal/bytealg.MakeNoZero"], unfollowed := true, recurses := true, named := ["precinct/sha.round"], apart := false, laid := [("precinct/sha.round", laid_precinct_sha_round)] }
def TokenMintsSaid : Prop := tokenMintsRow.holds Tryd.pinned (OpenSpec.ofChange tokenMintsSpec)

/-- ITS FALSE NEIGHBOUR: 'it returns false'. Refute it at one input. -/
def tokenMintsWrong : ChangeSpec := { name := "tokenMints", fn := fun _ => fun
  | [d1, d2, d3] => { results := [.lit (.bool false)], args := [d1, d2, d3] }
  | _ => none }
def TokenMintsWrongFalsely : Prop := tokenMintsRow.holds Tryd.pinned (OpenSpec.ofChange tokenMintsWrong)

/-- 'precinctlaw09.TokenVerifies': WHATEVER THE INPUT: true; the input reads as it did. -/
def tokenVerifiesSpec : ChangeSpec := { name := "tokenVerifies", fn := fun _ => fun
  | [d1, d2] => { results := [.lit (.bool true)], args := [d1, d2] }
  | _ => none }
def tokenVerifiesRow : OpenClaim := { program := "ytpbnfnaebdmagaadoor", sum := "427aade54dab2df4cf4a7ad597b94d8d83aeb71a034a36057fec7743734c39a7", func := "precinct/precinctlaw09.TokenVerifies", spec := "tokenVerifies", inPlace := ["internal/abi.NoEscape", "internal/bytealg.MakeNoZero"], unfollowed := true, recurses := true, named := ["precinct/sha.round"], apart := false, laid := [("precinct/sha.round", laid_precinct_sha_round)] }
def TokenVerifiesSaid : Prop := tokenVerifiesRow.holds Tryd.pinned (OpenSpec.ofChange tokenVerifiesSpec)

/-- ITS FALSE NEIGHBOUR: 'it returns false'. Refute it at one input. -/
def tokenVerifiesWrong : ChangeSpec := { name := "tokenVerifies", fn := fun _ => fun
  | [d1, d2] => { results := [.lit (.bool false)], args := [d1, d2] }
  | _ => none }
def TokenVerifiesWrongFalsely : Prop := tokenVerifiesRow.holds Tryd.pinned (OpenSpec.ofChange tokenVerifiesWrong)

/-- 'precinctlaw09.TokenBack': WHATEVER THE INPUT: true; the input reads as it did. -/
def tokenBackSpec : ChangeSpec := { name := "tokenBack", fn := fun _ => fun
  | [d1, d2] => { results := [.lit (.bool true)], args := [d1, d2] }
  | _ => none }
def tokenBackRow : OpenClaim := { program := "ytpbnfnaebdmagaadoor", sum := "427aade54dab2df4cf4a7ad597b94d8d83aeb71a034a36057fec7743734c39a7", func := "precinct/precinctlaw09.TokenBack", spec := "tokenBack", inPlace := ["internal/abi.NoEscape", "internal/bytealg.MakeNoZero"], unfollowed := true, recurses := true, named := ["precinct/sha.round"], apart := false, laid := [("precinct/sha.round", laid_precinct_sha_round)] }
def TokenBackSaid : Prop := tokenBackRow.holds Tryd.pinned (OpenSpec.ofChange tokenBackSpec)

/-- ITS FALSE NEIGHBOUR: 'it returns false'. Refute it at one input. -/
def tokenBackWrong : ChangeSpec := { name := "tokenBack", fn := fun _ => fun
  | [d1, d2] => { results := [.lit (.bool false)], args := [d1, d2] }
  | _ => none }
def TokenBackWrongFalsely : Prop := tokenBackRow.holds Tryd.pinned (OpenSpec.ofChange tokenBackWrong)

/-- 'precinctlaw09.TokenBits': WHATEVER THE INPUT: true; the input reads as it did. -/
def tokenBitsSpec : ChangeSpec := { name := "tokenBits", fn := fun _ => fun
  | [d1, d2, d3] => { results := [.lit (.bool true)], args := [d1, d2, d3] }
  | _ => none }
def tokenBitsRow : OpenClaim := { program := "ytpbnfnaebdmagaadoor", sum := "427aade54dab2df4cf4a7ad597b94d8d83aeb71a034a36057fec7743734c39a7", func := "precinct/precinctlaw09.TokenBits", spec := "tokenBits", inPlace := ["internal/abi.NoEscape", "internal/bytealg.MakeNoZero"], unfollowed := true, recurses := true, named := ["precinct/sha.round"], apart := false, laid := [("precinct/sha.round", laid_precinct_sha_round)] }
def TokenBitsSaid : Prop := tokenBitsRow.holds Tryd.pinned (OpenSpec.ofChange tokenBitsSpec)

/-- ITS FALSE NEIGHBOUR: 'it returns false'. Refute it at one input. -/
def tokenBitsWrong : ChangeSpec := { name := "tokenBits", fn := fun _ => fun
  | [d1, d2, d3] => { results := [.lit (.bool false)], args := [d1, d2, d3] }
  | _ => none }
def TokenBitsWrongFalsely : Prop := tokenBitsRow.holds Tryd.pinned (OpenSpec.ofChange tokenBitsWrong)

/-- 'precinctlaw09.TokenOrder': WHATEVER THE INPUT: true; the input reads as it did. -/
def tokenOrderSpec : ChangeSpec := { name := "tokenOrder", fn := fun _ => fun
  | [d1, d2, d3] => { results := [.lit (.bool true)], args := [d1, d2, d3] }
  | _ => none }
def tokenOrderRow : OpenClaim := { program := "ytpbnfnaebdmagaadoor", sum := "427aade54dab2df4cf4a7ad597b94d8d83aeb71a034a36057fec7743734c39a7", func := "precinct/precinctlaw09.TokenOrder", spec := "tokenOrder", inPlace := ["internal/abi.NoEscape", "internal/bytealg.MakeNoZero"], unfollowed := true, recurses := true, named := ["precinct/sha.round"], apart := false, laid := [("precinct/sha.round", laid_precinct_sha_round)] }
def TokenOrderSaid : Prop := tokenOrderRow.holds Tryd.pinned (OpenSpec.ofChange tokenOrderSpec)

/-- ITS FALSE NEIGHBOUR: 'it returns false'. Refute it at one input. -/
def tokenOrderWrong : ChangeSpec := { name := "tokenOrder", fn := fun _ => fun
  | [d1, d2, d3] => { results := [.lit (.bool false)], args := [d1, d2, d3] }
  | _ => none }
def TokenOrderWrongFalsely : Prop := tokenOrderRow.holds Tryd.pinned (OpenSpec.ofChange tokenOrderWrong)

/- THE SECOND FORM. 'bulk': how many values and letters a reading holds, each counted each time it is reached (what is shared counts as often as it is met; a slice's spare places count too). A statement '..UptoSaid' is the law's where the arguments, and the package variables that the reading takes, are together of bulk at most 1048576: NARROWER than '..Said'. Prove '..Said' where nothing that the law and all that it calls make is longer than what came in: it says more and counts as full. Else prove '..UptoSaid'. A law counts once. -/
mutual
def uptoBulk {H : Type} : DataW H → Nat
  | .lit (.string bytes) => bytes.length + 1
  | .lit _ => 1
  | .nil => 1
  | .ptr d => uptoBulk d + 1
  | .slice elems spare => uptoBulkAll elems + uptoBulkAll spare + 1
  | .agg parts => uptoBulkAll parts + 1
  | .iface _ d => uptoBulk d + 1
  | .map entries => uptoBulkEntries entries + 1
  | .held _ => 1
def uptoBulkAll {H : Type} : List (DataW H) → Nat
  | [] => 0
  | d :: r => uptoBulk d + uptoBulkAll r
def uptoBulkEntries {H : Type} : List (Lit × DataW H) → Nat
  | [] => 0
  | x :: r => uptoBulkEntry x + uptoBulkEntries r
def uptoBulkEntry {H : Type} : Lit × DataW H → Nat
  | (.string bytes, d) => bytes.length + uptoBulk d + 1
  | (_, d) => uptoBulk d + 1
 end
def uptoSmall : (H : Type) → List (DataW H) → Bool := fun _ ds => decide (uptoBulkAll ds ≤ 1048576)
def OpenSpec.upto (s : _root_.Go.ChangeSpec) : _root_.Go.OpenSpec := { _root_.Go.OpenSpec.ofChange s with cond := some uptoSmall }

/-- 'precinctlaw09.TokenParses', WHERE WHAT IT READS IS OF BULK AT MOST 1048576: true; the input reads as it did. -/
def tokenParsesUptoRow : OpenClaim := { program := "ytpbnfnaebdmagaadoor", sum := "427aade54dab2df4cf4a7ad597b94d8d83aeb71a034a36057fec7743734c39a7", func := "precinct/precinctlaw09.TokenParses", spec := "tokenParses", inPlace := ["internal/abi.NoEscape", "internal/bytealg.MakeNoZero"], unfollowed := true, recurses := true, named := ["precinct/sha.round"], apart := false, laid := [("precinct/sha.round", laid_precinct_sha_round)], narrowed := true }
def TokenParsesUptoSaid : Prop := tokenParsesUptoRow.holds Tryd.pinned (OpenSpec.upto tokenParsesSpec)

/-- 'precinctlaw09.TokenMints', WHERE WHAT IT READS IS OF BULK AT MOST 1048576: true; the input reads as it did. -/
def tokenMintsUptoRow : OpenClaim := { program := "ytpbnfnaebdmagaadoor", sum := "427aade54dab2df4cf4a7ad597b94d8d83aeb71a034a36057fec7743734c39a7", func := "precinct/precinctlaw09.TokenMints", spec := "tokenMints", inPlace := ["internal/abi.NoEscape", "internal/bytealg.MakeNoZero"], unfollowed := true, recurses := true, named := ["precinct/sha.round"], apart := false, laid := [("precinct/sha.round", laid_precinct_sha_round)], narrowed := true }
def TokenMintsUptoSaid : Prop := tokenMintsUptoRow.holds Tryd.pinned (OpenSpec.upto tokenMintsSpec)

/-- 'precinctlaw09.TokenVerifies', WHERE WHAT IT READS IS OF BULK AT MOST 1048576: true; the input reads as it did. -/
def tokenVerifiesUptoRow : OpenClaim := { program := "ytpbnfnaebdmagaadoor", sum := "427aade54dab2df4cf4a7ad597b94d8d83aeb71a034a36057fec7743734c39a7", func := "precinct/precinctlaw09.TokenVerifies", spec := "tokenVerifies", inPlace := ["internal/abi.NoEscape", "internal/bytealg.MakeNoZero"], unfollowed := true, recurses := true, named := ["precinct/sha.round"], apart := false, laid := [("precinct/sha.round", laid_precinct_sha_round)], narrowed := true }
def TokenVerifiesUptoSaid : Prop := tokenVerifiesUptoRow.holds Tryd.pinned (OpenSpec.upto tokenVerifiesSpec)

/-- 'precinctlaw09.TokenBack', WHERE WHAT IT READS IS OF BULK AT MOST 1048576: true; the input reads as it did. -/
def tokenBackUptoRow : OpenClaim := { program := "ytpbnfnaebdmagaadoor", sum := "427aade54dab2df4cf4a7ad597b94d8d83aeb71a034a36057fec7743734c39a7", func := "precinct/precinctlaw09.TokenBack", spec := "tokenBack", inPlace := ["internal/abi.NoEscape", "internal/bytealg.MakeNoZero"], unfollowed := true, recurses := true, named := ["precinct/sha.round"], apart := false, laid := [("precinct/sha.round", laid_precinct_sha_round)], narrowed := true }
def TokenBackUptoSaid : Prop := tokenBackUptoRow.holds Tryd.pinned (OpenSpec.upto tokenBackSpec)

/-- 'precinctlaw09.TokenBits', WHERE WHAT IT READS IS OF BULK AT MOST 1048576: true; the input reads as it did. -/
def tokenBitsUptoRow : OpenClaim := { program := "ytpbnfnaebdmagaadoor", sum := "427aade54dab2df4cf4a7ad597b94d8d83aeb71a034a36057fec7743734c39a7", func := "precinct/precinctlaw09.TokenBits", spec := "tokenBits", inPlace := ["internal/abi.NoEscape", "internal/bytealg.MakeNoZero"], unfollowed := true, recurses := true, named := ["precinct/sha.round"], apart := false, laid := [("precinct/sha.round", laid_precinct_sha_round)], narrowed := true }
def TokenBitsUptoSaid : Prop := tokenBitsUptoRow.holds Tryd.pinned (OpenSpec.upto tokenBitsSpec)

/-- 'precinctlaw09.TokenOrder', WHERE WHAT IT READS IS OF BULK AT MOST 1048576: true; the input reads as it did. -/
def tokenOrderUptoRow : OpenClaim := { program := "ytpbnfnaebdmagaadoor", sum := "427aade54dab2df4cf4a7ad597b94d8d83aeb71a034a36057fec7743734c39a7", func := "precinct/precinctlaw09.TokenOrder", spec := "tokenOrder", inPlace := ["internal/abi.NoEscape", "internal/bytealg.MakeNoZero"], unfollowed := true, recurses := true, named := ["precinct/sha.round"], apart := false, laid := [("precinct/sha.round", laid_precinct_sha_round)], narrowed := true }
def TokenOrderUptoSaid : Prop := tokenOrderUptoRow.holds Tryd.pinned (OpenSpec.upto tokenOrderSpec)

end Rows
end Go.Proofs.YtpbnfnaebdmagaaDoor
