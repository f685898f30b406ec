/-
  NARROWER THAN 'FOR EVERY INPUT', by the rows' own cells (each row's printed sentence says how): ReceiptMakes: laid · ReceiptDecodes: laid · ReceiptMore: laid · ReceiptErrors: laid · ReceiptGrows: laid · ReceiptCollides: laid · ReceiptTexts: laid.
  DERIVED. THE GIVEN ROWS OF THIS SEAT. 7 by the template 'for every input the law returns true; each argument reads behind the call as it read before'; 0 by the template 'total and deterministic' (their statements: YtlpmiimgacfmkaaGreatDoorTotals.lean).
  GIVEN WITH THE SEED: the statements are not yours to turn. If you find one false, say at which input.
  Laid BY PROGRAM, IN A SANDBOX (cutbox-rows.mjs): the forced cells as the released guide's own fill.sh prints them over the translation 10746e58735436e7… (all of the seat's roots in one cut). By AI agents, Wed Nov 11 2026. No macro, syntax, notation, axiom, sorry.
-/
import Derived.Test.YtlpmiimgacfmkaaGreatDoorChecked
import GoSem.Claim
import GoSem.ClaimJoined
import GoSem.ClaimMapViews
import Derived.JoinedTies
import Derived.KernelRfl
namespace Go.Proofs.YtlpmiimgacfmkaaGreatDoor
/- THE CELL 'sum', in the pinned program and in every row, IS THE sha256 OF THE DUMP (.gsa) THAT YtlpmiimgacfmkaaGreatDoorProg.lean LOADS. Nothing in Lean hashes anything: it is a label: what it is worth is what the hold of that sum in a sandbox is worth. -/
noncomputable def Tryz.pinned : Pinned := { name := "ytlpmiimgacfmkaagreatdoor", sum := "10746e58735436e7fd2dacc9702a38e07f083d1a99c14468b29d40eb4c2ecba6", checked := Tryz.checked }
namespace Rows
def none {H : Type} : Left H := { results := [], args := [] }

/- WHAT THE LISTED PACKAGE-LEVEL VARIABLES READ AS WHEN THE CALL BEGINS. Each datum BY PROGRAM (the guide's laid-datum.mjs) off the statement by which the dump's own 'gosem.cut.vars' lays the variable. In a bare row this is a premise. The card (YtlpmiimgacfmkaaGreatDoorCards.lean) ties it to the program's text. -/
def laid_replevin_sha256_initial {H : Type} : DataW H := .agg [.lit (.int .u32 1779033703), .lit (.int .u32 3144134277), .lit (.int .u32 1013904242), .lit (.int .u32 2773480762), .lit (.int .u32 1359893119), .lit (.int .u32 2600822924), .lit (.int .u32 528734635), .lit (.int .u32 1541459225)]
def laid_replevin_sha256_constants {H : Type} : DataW H := .agg [.lit (.int .u32 1116352408), .lit (.int .u32 1899447441), .lit (.int .u32 3049323471), .lit (.int .u32 3921009573), .lit (.int .u32 961987163), .lit (.int .u32 1508970993), .lit (.int .u32 2453635748), .lit (.int .u32 2870763221), .lit (.int .u32 3624381080), .lit (.int .u32 310598401), .lit (.int .u32 607225278), .lit (.int .u32 1426881987), .lit (.int .u32 1925078388), .lit (.int .u32 2162078206), .lit (.int .u32 2614888103), .lit (.int .u32 3248222580), .lit (.int .u32 3835390401), .lit (.int .u32 4022224774), .lit (.int .u32 264347078), .lit (.int .u32 604807628), .lit (.int .u32 770255983), .lit (.int .u32 1249150122), .lit (.int .u32 1555081692), .lit (.int .u32 1996064986), .lit (.int .u32 2554220882), .lit (.int .u32 2821834349), .lit (.int .u32 2952996808), .lit (.int .u32 3210313671), .lit (.int .u32 3336571891), .lit (.int .u32 3584528711), .lit (.int .u32 113926993), .lit (.int .u32 338241895), .lit (.int .u32 666307205), .lit (.int .u32 773529912), .lit (.int .u32 1294757372), .lit (.int .u32 1396182291), .lit (.int .u32 1695183700), .lit (.int .u32 1986661051), .lit (.int .u32 2177026350), .lit (.int .u32 2456956037), .lit (.int .u32 2730485921), .lit (.int .u32 2820302411), .lit (.int .u32 3259730800), .lit (.int .u32 3345764771), .lit (.int .u32 3516065817), .lit (.int .u32 3600352804), .lit (.int .u32 4094571909), .lit (.int .u32 275423344), .lit (.int .u32 430227734), .lit (.int .u32 506948616), .lit (.int .u32 659060556), .lit (.int .u32 883997877), .lit (.int .u32 958139571), .lit (.int .u32 1322822218), .lit (.int .u32 1537002063), .lit (.int .u32 1747873779), .lit (.int .u32 1955562222), .lit (.int .u32 2024104815), .lit (.int .u32 2227730452), .lit (.int .u32 2361852424), .lit (.int .u32 2428436474), .lit (.int .u32 2756734187), .lit (.int .u32 3204031479), .lit (.int .u32 3329325298)]
def laid_replevin_object_usages {H : Type} : DataW H := .agg [.agg [.lit (.string []), .lit (.bool false), .lit (.bool false), .lit (.bool false), .lit (.bool false), .lit (.int .i64 0)], .agg [.lit (.string [112, 114, 111, 99, 101, 115, 115]), .lit (.bool true), .lit (.bool false), .lit (.bool false), .lit (.bool false), .lit (.int .i64 0)], .agg [.lit (.string [114, 101, 103, 105, 115, 116, 101, 114, 115]), .lit (.bool true), .lit (.bool false), .lit (.bool false), .lit (.bool false), .lit (.int .i64 0)], .agg [.lit (.string [112, 97, 103, 101]), .lit (.bool true), .lit (.bool false), .lit (.bool true), .lit (.bool false), .lit (.int .i64 63)], .agg [.lit (.string [116, 97, 98, 108, 101]), .lit (.bool true), .lit (.bool false), .lit (.bool false), .lit (.bool false), .lit (.int .i64 0)], .agg [.lit (.string [99, 111, 117, 110, 116, 101, 114]), .lit (.bool true), .lit (.bool false), .lit (.bool false), .lit (.bool false), .lit (.int .i64 0)], .agg [.lit (.string [112, 101, 110, 100, 105, 110, 103]), .lit (.bool true), .lit (.bool false), .lit (.bool false), .lit (.bool false), .lit (.int .i64 0)], .agg [.lit (.string [110, 111, 100, 101]), .lit (.bool true), .lit (.bool true), .lit (.bool false), .lit (.bool false), .lit (.int .i64 0)], .agg [.lit (.string [98, 108, 111, 99, 107]), .lit (.bool true), .lit (.bool true), .lit (.bool true), .lit (.bool false), .lit (.int .i64 63)], .agg [.lit (.string [101, 110, 116, 114, 121]), .lit (.bool true), .lit (.bool true), .lit (.bool false), .lit (.bool true), .lit (.int .i64 0)], .agg [.lit (.string [108, 105, 115, 116, 105, 110, 103]), .lit (.bool true), .lit (.bool true), .lit (.bool false), .lit (.bool false), .lit (.int .i64 0)], .agg [.lit (.string [112, 105, 112, 101]), .lit (.bool true), .lit (.bool true), .lit (.bool false), .lit (.bool false), .lit (.int .i64 0)], .agg [.lit (.string [108, 111, 99, 107]), .lit (.bool true), .lit (.bool true), .lit (.bool false), .lit (.bool false), .lit (.int .i64 0)], .agg [.lit (.string [116, 101, 114, 109, 105, 110, 97, 108]), .lit (.bool false), .lit (.bool true), .lit (.bool false), .lit (.bool false), .lit (.int .i64 0)], .agg [.lit (.string [97, 99, 99, 111, 117, 110, 116]), .lit (.bool false), .lit (.bool false), .lit (.bool false), .lit (.bool true), .lit (.int .i64 0)], .agg [.lit (.string [99, 108, 111, 99, 107]), .lit (.bool false), .lit (.bool false), .lit (.bool false), .lit (.bool false), .lit (.int .i64 0)], .agg [.lit (.string [112, 111, 114, 116]), .lit (.bool false), .lit (.bool true), .lit (.bool false), .lit (.bool false), .lit (.int .i64 0)], .agg [.lit (.string [98, 111, 120]), .lit (.bool false), .lit (.bool false), .lit (.bool false), .lit (.bool true), .lit (.int .i64 0)], .agg [.lit (.string [111, 117, 116]), .lit (.bool true), .lit (.bool true), .lit (.bool true), .lit (.bool false), .lit (.int .i64 1073741824)], .agg [.lit (.string [115, 104, 101, 108, 108]), .lit (.bool true), .lit (.bool false), .lit (.bool false), .lit (.bool false), .lit (.int .i64 0)], .agg [.lit (.string [101, 112, 111, 99, 104]), .lit (.bool false), .lit (.bool false), .lit (.bool false), .lit (.bool false), .lit (.int .i64 0)]]
def laid_math_bits_deBruijn32tab {H : Type} : DataW H := .agg [.lit (.int .u8 0), .lit (.int .u8 1), .lit (.int .u8 28), .lit (.int .u8 2), .lit (.int .u8 29), .lit (.int .u8 14), .lit (.int .u8 24), .lit (.int .u8 3), .lit (.int .u8 30), .lit (.int .u8 22), .lit (.int .u8 20), .lit (.int .u8 15), .lit (.int .u8 25), .lit (.int .u8 17), .lit (.int .u8 4), .lit (.int .u8 8), .lit (.int .u8 31), .lit (.int .u8 27), .lit (.int .u8 13), .lit (.int .u8 23), .lit (.int .u8 21), .lit (.int .u8 19), .lit (.int .u8 16), .lit (.int .u8 7), .lit (.int .u8 26), .lit (.int .u8 12), .lit (.int .u8 18), .lit (.int .u8 6), .lit (.int .u8 11), .lit (.int .u8 5), .lit (.int .u8 10), .lit (.int .u8 9)]
def laid_math_bits_deBruijn64tab {H : Type} : DataW H := .agg [.lit (.int .u8 0), .lit (.int .u8 1), .lit (.int .u8 56), .lit (.int .u8 2), .lit (.int .u8 57), .lit (.int .u8 49), .lit (.int .u8 28), .lit (.int .u8 3), .lit (.int .u8 61), .lit (.int .u8 58), .lit (.int .u8 42), .lit (.int .u8 50), .lit (.int .u8 38), .lit (.int .u8 29), .lit (.int .u8 17), .lit (.int .u8 4), .lit (.int .u8 62), .lit (.int .u8 47), .lit (.int .u8 59), .lit (.int .u8 36), .lit (.int .u8 45), .lit (.int .u8 43), .lit (.int .u8 51), .lit (.int .u8 22), .lit (.int .u8 53), .lit (.int .u8 39), .lit (.int .u8 33), .lit (.int .u8 30), .lit (.int .u8 24), .lit (.int .u8 18), .lit (.int .u8 12), .lit (.int .u8 5), .lit (.int .u8 63), .lit (.int .u8 55), .lit (.int .u8 48), .lit (.int .u8 27), .lit (.int .u8 60), .lit (.int .u8 41), .lit (.int .u8 37), .lit (.int .u8 16), .lit (.int .u8 46), .lit (.int .u8 35), .lit (.int .u8 44), .lit (.int .u8 21), .lit (.int .u8 52), .lit (.int .u8 32), .lit (.int .u8 23), .lit (.int .u8 11), .lit (.int .u8 54), .lit (.int .u8 26), .lit (.int .u8 40), .lit (.int .u8 15), .lit (.int .u8 34), .lit (.int .u8 20), .lit (.int .u8 31), .lit (.int .u8 10), .lit (.int .u8 25), .lit (.int .u8 14), .lit (.int .u8 19), .lit (.int .u8 9), .lit (.int .u8 13), .lit (.int .u8 8), .lit (.int .u8 7), .lit (.int .u8 6)]
def laid_internal_strconv_uint64pow10 {H : Type} : DataW H := .agg [.lit (.int .u64 1), .lit (.int .u64 10), .lit (.int .u64 100), .lit (.int .u64 1000), .lit (.int .u64 10000), .lit (.int .u64 100000), .lit (.int .u64 1000000), .lit (.int .u64 10000000), .lit (.int .u64 100000000), .lit (.int .u64 1000000000), .lit (.int .u64 10000000000), .lit (.int .u64 100000000000), .lit (.int .u64 1000000000000), .lit (.int .u64 10000000000000), .lit (.int .u64 100000000000000), .lit (.int .u64 1000000000000000), .lit (.int .u64 10000000000000000), .lit (.int .u64 100000000000000000), .lit (.int .u64 1000000000000000000), .lit (.int .u64 10000000000000000000)]

/-- 'replevinlaw55.ReceiptMakes': WHATEVER THE INPUT: true; the input reads as it did. -/
def receiptMakesSpec : ChangeSpec := { name := "receiptMakes", fn := fun _ => fun
  | [d1, d2, d3] => { results := [.lit (.bool true)], args := [d1, d2, d3] }
  | _ => none }
def receiptMakesRow : OpenClaim := { program := "ytlpmiimgacfmkaagreatdoor", sum := "10746e58735436e7fd2dacc9702a38e07f083d1a99c14468b29d40eb4c2ecba6", func := "replevin/replevinlaw55.ReceiptMakes", spec := "receiptMakes", unfollowed := true, recurses := true, named := ["replevin/object.usages", "replevin/sha256.initial", "replevin/sha256.constants"], plainKeys := false, apart := false, laid := [("replevin/sha256.initial", laid_replevin_sha256_initial), ("replevin/sha256.constants", laid_replevin_sha256_constants), ("replevin/object.usages", laid_replevin_object_usages)] }
def ReceiptMakesSaid : Prop := receiptMakesRow.holds Tryz.pinned (OpenSpec.ofChange receiptMakesSpec)

/-- ITS FALSE NEIGHBOUR: 'it returns false'. Refute it at one input. -/
def receiptMakesWrong : ChangeSpec := { name := "receiptMakes", fn := fun _ => fun
  | [d1, d2, d3] => { results := [.lit (.bool false)], args := [d1, d2, d3] }
  | _ => none }
def ReceiptMakesWrongFalsely : Prop := receiptMakesRow.holds Tryz.pinned (OpenSpec.ofChange receiptMakesWrong)

/-- 'replevinlaw55.ReceiptDecodes': WHATEVER THE INPUT: true; the input reads as it did. -/
def receiptDecodesSpec : ChangeSpec := { name := "receiptDecodes", fn := fun _ => fun
  | [d] => { results := [.lit (.bool true)], args := [d] }
  | _ => none }
def receiptDecodesRow : OpenClaim := { program := "ytlpmiimgacfmkaagreatdoor", sum := "10746e58735436e7fd2dacc9702a38e07f083d1a99c14468b29d40eb4c2ecba6", func := "replevin/replevinlaw55.ReceiptDecodes", spec := "receiptDecodes", unfollowed := true, recurses := true, named := ["replevin/object.usages", "replevin/sha256.initial", "replevin/sha256.constants"], plainKeys := false, apart := false, laid := [("replevin/sha256.initial", laid_replevin_sha256_initial), ("replevin/sha256.constants", laid_replevin_sha256_constants), ("replevin/object.usages", laid_replevin_object_usages)] }
def ReceiptDecodesSaid : Prop := receiptDecodesRow.holds Tryz.pinned (OpenSpec.ofChange receiptDecodesSpec)

/-- ITS FALSE NEIGHBOUR: 'it returns false'. Refute it at one input. -/
def receiptDecodesWrong : ChangeSpec := { name := "receiptDecodes", fn := fun _ => fun
  | [d] => { results := [.lit (.bool false)], args := [d] }
  | _ => none }
def ReceiptDecodesWrongFalsely : Prop := receiptDecodesRow.holds Tryz.pinned (OpenSpec.ofChange receiptDecodesWrong)

/-- 'replevinlaw55.ReceiptMore': WHATEVER THE INPUT: true; the input reads as it did. -/
def receiptMoreSpec : ChangeSpec := { name := "receiptMore", fn := fun _ => fun
  | [d1, d2, d3] => { results := [.lit (.bool true)], args := [d1, d2, d3] }
  | _ => none }
def receiptMoreRow : OpenClaim := { program := "ytlpmiimgacfmkaagreatdoor", sum := "10746e58735436e7fd2dacc9702a38e07f083d1a99c14468b29d40eb4c2ecba6", func := "replevin/replevinlaw55.ReceiptMore", spec := "receiptMore", unfollowed := true, recurses := true, named := ["replevin/object.usages", "replevin/sha256.initial", "replevin/sha256.constants"], plainKeys := false, apart := false, laid := [("replevin/sha256.initial", laid_replevin_sha256_initial), ("replevin/sha256.constants", laid_replevin_sha256_constants), ("replevin/object.usages", laid_replevin_object_usages)] }
def ReceiptMoreSaid : Prop := receiptMoreRow.holds Tryz.pinned (OpenSpec.ofChange receiptMoreSpec)

/-- ITS FALSE NEIGHBOUR: 'it returns false'. Refute it at one input. -/
def receiptMoreWrong : ChangeSpec := { name := "receiptMore", fn := fun _ => fun
  | [d1, d2, d3] => { results := [.lit (.bool false)], args := [d1, d2, d3] }
  | _ => none }
def ReceiptMoreWrongFalsely : Prop := receiptMoreRow.holds Tryz.pinned (OpenSpec.ofChange receiptMoreWrong)

/-- 'replevinlaw55.ReceiptErrors': WHATEVER THE INPUT: true; the input reads as it did. -/
def receiptErrorsSpec : ChangeSpec := { name := "receiptErrors", fn := fun _ => fun
  | [d1, d2, d3] => { results := [.lit (.bool true)], args := [d1, d2, d3] }
  | _ => none }
def receiptErrorsRow : OpenClaim := { program := "ytlpmiimgacfmkaagreatdoor", sum := "10746e58735436e7fd2dacc9702a38e07f083d1a99c14468b29d40eb4c2ecba6", func := "replevin/replevinlaw55.ReceiptErrors", spec := "receiptErrors", unfollowed := true, recurses := true, named := ["replevin/object.usages", "replevin/sha256.initial", "replevin/sha256.constants"], plainKeys := false, apart := false, laid := [("replevin/sha256.initial", laid_replevin_sha256_initial), ("replevin/sha256.constants", laid_replevin_sha256_constants), ("replevin/object.usages", laid_replevin_object_usages)] }
def ReceiptErrorsSaid : Prop := receiptErrorsRow.holds Tryz.pinned (OpenSpec.ofChange receiptErrorsSpec)

/-- ITS FALSE NEIGHBOUR: 'it returns false'. Refute it at one input. -/
def receiptErrorsWrong : ChangeSpec := { name := "receiptErrors", fn := fun _ => fun
  | [d1, d2, d3] => { results := [.lit (.bool false)], args := [d1, d2, d3] }
  | _ => none }
def ReceiptErrorsWrongFalsely : Prop := receiptErrorsRow.holds Tryz.pinned (OpenSpec.ofChange receiptErrorsWrong)

/-- 'replevinlaw55.ReceiptGrows': WHATEVER THE INPUT: true; the input reads as it did. -/
def receiptGrowsSpec : ChangeSpec := { name := "receiptGrows", fn := fun _ => fun
  | [d1, d2, d3] => { results := [.lit (.bool true)], args := [d1, d2, d3] }
  | _ => none }
def receiptGrowsRow : OpenClaim := { program := "ytlpmiimgacfmkaagreatdoor", sum := "10746e58735436e7fd2dacc9702a38e07f083d1a99c14468b29d40eb4c2ecba6", func := "replevin/replevinlaw55.ReceiptGrows", spec := "receiptGrows", unfollowed := true, recurses := true, named := ["replevin/object.usages", "replevin/sha256.initial", "replevin/sha256.constants"], plainKeys := false, apart := false, laid := [("replevin/sha256.initial", laid_replevin_sha256_initial), ("replevin/sha256.constants", laid_replevin_sha256_constants), ("replevin/object.usages", laid_replevin_object_usages)] }
def ReceiptGrowsSaid : Prop := receiptGrowsRow.holds Tryz.pinned (OpenSpec.ofChange receiptGrowsSpec)

/-- ITS FALSE NEIGHBOUR: 'it returns false'. Refute it at one input. -/
def receiptGrowsWrong : ChangeSpec := { name := "receiptGrows", fn := fun _ => fun
  | [d1, d2, d3] => { results := [.lit (.bool false)], args := [d1, d2, d3] }
  | _ => none }
def ReceiptGrowsWrongFalsely : Prop := receiptGrowsRow.holds Tryz.pinned (OpenSpec.ofChange receiptGrowsWrong)

/-- 'replevinlaw55.ReceiptCollides': WHATEVER THE INPUT: true; the input reads as it did. -/
def receiptCollidesSpec : ChangeSpec := { name := "receiptCollides", fn := fun _ => fun
  | [d1, d2, d3] => { results := [.lit (.bool true)], args := [d1, d2, d3] }
  | _ => none }
def receiptCollidesRow : OpenClaim := { program := "ytlpmiimgacfmkaagreatdoor", sum := "10746e58735436e7fd2dacc9702a38e07f083d1a99c14468b29d40eb4c2ecba6", func := "replevin/replevinlaw55.ReceiptCollides", spec := "receiptCollides", inPlace := ["slices.overlaps[replevin/history.Proof]"], unfollowed := true, recurses := true, named := ["replevin/object.usages", "replevin/sha256.initial", "replevin/sha256.constants"], plainKeys := false, apart := false, laid := [("replevin/sha256.initial", laid_replevin_sha256_initial), ("replevin/sha256.constants", laid_replevin_sha256_constants), ("replevin/object.usages", laid_replevin_object_usages)] }
def ReceiptCollidesSaid : Prop := receiptCollidesRow.holds Tryz.pinned (OpenSpec.ofChange receiptCollidesSpec)

/-- ITS FALSE NEIGHBOUR: 'it returns false'. Refute it at one input. -/
def receiptCollidesWrong : ChangeSpec := { name := "receiptCollides", fn := fun _ => fun
  | [d1, d2, d3] => { results := [.lit (.bool false)], args := [d1, d2, d3] }
  | _ => none }
def ReceiptCollidesWrongFalsely : Prop := receiptCollidesRow.holds Tryz.pinned (OpenSpec.ofChange receiptCollidesWrong)

/-- 'replevinlaw55.ReceiptTexts': WHATEVER THE INPUT: true; the input reads as it did. -/
def receiptTextsSpec : ChangeSpec := { name := "receiptTexts", fn := fun _ => fun
  | [d1, d2] => { results := [.lit (.bool true)], args := [d1, d2] }
  | _ => none }
def receiptTextsRow : OpenClaim := { program := "ytlpmiimgacfmkaagreatdoor", sum := "10746e58735436e7fd2dacc9702a38e07f083d1a99c14468b29d40eb4c2ecba6", func := "replevin/replevinlaw55.ReceiptTexts", spec := "receiptTexts", inPlace := ["internal/abi.NoEscape"], unfollowed := true, recurses := true, named := ["replevin/object.usages", "replevin/sha256.initial", "replevin/sha256.constants", "internal/strconv.uint64pow10", "math/bits.deBruijn32tab", "math/bits.deBruijn64tab"], plainKeys := false, apart := false, laid := [("math/bits.deBruijn32tab", laid_math_bits_deBruijn32tab), ("math/bits.deBruijn64tab", laid_math_bits_deBruijn64tab), ("internal/strconv.uint64pow10", laid_internal_strconv_uint64pow10), ("replevin/sha256.initial", laid_replevin_sha256_initial), ("replevin/sha256.constants", laid_replevin_sha256_constants), ("replevin/object.usages", laid_replevin_object_usages)] }
def ReceiptTextsSaid : Prop := receiptTextsRow.holds Tryz.pinned (OpenSpec.ofChange receiptTextsSpec)

/-- ITS FALSE NEIGHBOUR: 'it returns false'. Refute it at one input. -/
def receiptTextsWrong : ChangeSpec := { name := "receiptTexts", fn := fun _ => fun
  | [d1, d2] => { results := [.lit (.bool false)], args := [d1, d2] }
  | _ => none }
def ReceiptTextsWrongFalsely : Prop := receiptTextsRow.holds Tryz.pinned (OpenSpec.ofChange receiptTextsWrong)

/- THE SECOND FORM. 'bulk': how many values and letters a reading holds, each counted each time it is reached (what is shared counts as often as it is met; a slice's spare places count too). A statement '..UptoSaid' is the law's where the arguments, and the package variables that the reading takes, are together of bulk at most 1048576: NARROWER than '..Said'. Prove '..Said' where nothing that the law and all that it calls make is longer than what came in: it says more and counts as full. Else prove '..UptoSaid'. A law counts once. -/
mutual
def uptoBulk {H : Type} : DataW H → Nat
  | .lit (.string bytes) => bytes.length + 1
  | .lit _ => 1
  | .nil => 1
  | .ptr d => uptoBulk d + 1
  | .slice elems spare => uptoBulkAll elems + uptoBulkAll spare + 1
  | .agg parts => uptoBulkAll parts + 1
  | .iface _ d => uptoBulk d + 1
  | .map entries => uptoBulkEntries entries + 1
  | .held _ => 1
def uptoBulkAll {H : Type} : List (DataW H) → Nat
  | [] => 0
  | d :: r => uptoBulk d + uptoBulkAll r
def uptoBulkEntries {H : Type} : List (Lit × DataW H) → Nat
  | [] => 0
  | x :: r => uptoBulkEntry x + uptoBulkEntries r
def uptoBulkEntry {H : Type} : Lit × DataW H → Nat
  | (.string bytes, d) => bytes.length + uptoBulk d + 1
  | (_, d) => uptoBulk d + 1
 end
def uptoSmall : (H : Type) → List (DataW H) → Bool := fun _ ds => decide (uptoBulkAll ds ≤ 1048576)
def OpenSpec.upto (s : _root_.Go.ChangeSpec) : _root_.Go.OpenSpec := { _root_.Go.OpenSpec.ofChange s with cond := some uptoSmall }

/-- 'replevinlaw55.ReceiptMakes', WHERE WHAT IT READS IS OF BULK AT MOST 1048576: true; the input reads as it did. -/
def receiptMakesUptoRow : OpenClaim := { program := "ytlpmiimgacfmkaagreatdoor", sum := "10746e58735436e7fd2dacc9702a38e07f083d1a99c14468b29d40eb4c2ecba6", func := "replevin/replevinlaw55.ReceiptMakes", spec := "receiptMakes", unfollowed := true, recurses := true, named := ["replevin/object.usages", "replevin/sha256.initial", "replevin/sha256.constants"], plainKeys := false, apart := false, laid := [("replevin/sha256.initial", laid_replevin_sha256_initial), ("replevin/sha256.constants", laid_replevin_sha256_constants), ("replevin/object.usages", laid_replevin_object_usages)], narrowed := true }
def ReceiptMakesUptoSaid : Prop := receiptMakesUptoRow.holds Tryz.pinned (OpenSpec.upto receiptMakesSpec)

/-- 'replevinlaw55.ReceiptDecodes', WHERE WHAT IT READS IS OF BULK AT MOST 1048576: true; the input reads as it did. -/
def receiptDecodesUptoRow : OpenClaim := { program := "ytlpmiimgacfmkaagreatdoor", sum := "10746e58735436e7fd2dacc9702a38e07f083d1a99c14468b29d40eb4c2ecba6", func := "replevin/replevinlaw55.ReceiptDecodes", spec := "receiptDecodes", unfollowed := true, recurses := true, named := ["replevin/object.usages", "replevin/sha256.initial", "replevin/sha256.constants"], plainKeys := false, apart := false, laid := [("replevin/sha256.initial", laid_replevin_sha256_initial), ("replevin/sha256.constants", laid_replevin_sha256_constants), ("replevin/object.usages", laid_replevin_object_usages)], narrowed := true }
def ReceiptDecodesUptoSaid : Prop := receiptDecodesUptoRow.holds Tryz.pinned (OpenSpec.upto receiptDecodesSpec)

/-- 'replevinlaw55.ReceiptMore', WHERE WHAT IT READS IS OF BULK AT MOST 1048576: true; the input reads as it did. -/
def receiptMoreUptoRow : OpenClaim := { program := "ytlpmiimgacfmkaagreatdoor", sum := "10746e58735436e7fd2dacc9702a38e07f083d1a99c14468b29d40eb4c2ecba6", func := "replevin/replevinlaw55.ReceiptMore", spec := "receiptMore", unfollowed := true, recurses := true, named := ["replevin/object.usages", "replevin/sha256.initial", "replevin/sha256.constants"], plainKeys := false, apart := false, laid := [("replevin/sha256.initial", laid_replevin_sha256_initial), ("replevin/sha256.constants", laid_replevin_sha256_constants), ("replevin/object.usages", laid_replevin_object_usages)], narrowed := true }
def ReceiptMoreUptoSaid : Prop := receiptMoreUptoRow.holds Tryz.pinned (OpenSpec.upto receiptMoreSpec)

/-- 'replevinlaw55.ReceiptErrors', WHERE WHAT IT READS IS OF BULK AT MOST 1048576: true; the input reads as it did. -/
def receiptErrorsUptoRow : OpenClaim := { program := "ytlpmiimgacfmkaagreatdoor", sum := "10746e58735436e7fd2dacc9702a38e07f083d1a99c14468b29d40eb4c2ecba6", func := "replevin/replevinlaw55.ReceiptErrors", spec := "receiptErrors", unfollowed := true, recurses := true, named := ["replevin/object.usages", "replevin/sha256.initial", "replevin/sha256.constants"], plainKeys := false, apart := false, laid := [("replevin/sha256.initial", laid_replevin_sha256_initial), ("replevin/sha256.constants", laid_replevin_sha256_constants), ("replevin/object.usages", laid_replevin_object_usages)], narrowed := true }
def ReceiptErrorsUptoSaid : Prop := receiptErrorsUptoRow.holds Tryz.pinned (OpenSpec.upto receiptErrorsSpec)

/-- 'replevinlaw55.ReceiptGrows', WHERE WHAT IT READS IS OF BULK AT MOST 1048576: true; the input reads as it did. -/
def receiptGrowsUptoRow : OpenClaim := { program := "ytlpmiimgacfmkaagreatdoor", sum := "10746e58735436e7fd2dacc9702a38e07f083d1a99c14468b29d40eb4c2ecba6", func := "replevin/replevinlaw55.ReceiptGrows", spec := "receiptGrows", unfollowed := true, recurses := true, named := ["replevin/object.usages", "replevin/sha256.initial", "replevin/sha256.constants"], plainKeys := false, apart := false, laid := [("replevin/sha256.initial", laid_replevin_sha256_initial), ("replevin/sha256.constants", laid_replevin_sha256_constants), ("replevin/object.usages", laid_replevin_object_usages)], narrowed := true }
def ReceiptGrowsUptoSaid : Prop := receiptGrowsUptoRow.holds Tryz.pinned (OpenSpec.upto receiptGrowsSpec)

/-- 'replevinlaw55.ReceiptCollides', WHERE WHAT IT READS IS OF BULK AT MOST 1048576: true; the input reads as it did. -/
def receiptCollidesUptoRow : OpenClaim := { program := "ytlpmiimgacfmkaagreatdoor", sum := "10746e58735436e7fd2dacc9702a38e07f083d1a99c14468b29d40eb4c2ecba6", func := "replevin/replevinlaw55.ReceiptCollides", spec := "receiptCollides", inPlace := ["slices.overlaps[replevin/history.Proof]"], unfollowed := true, recurses := true, named := ["replevin/object.usages", "replevin/sha256.initial", "replevin/sha256.constants"], plainKeys := false, apart := false, laid := [("replevin/sha256.initial", laid_replevin_sha256_initial), ("replevin/sha256.constants", laid_replevin_sha256_constants), ("replevin/object.usages", laid_replevin_object_usages)], narrowed := true }
def ReceiptCollidesUptoSaid : Prop := receiptCollidesUptoRow.holds Tryz.pinned (OpenSpec.upto receiptCollidesSpec)

/-- 'replevinlaw55.ReceiptTexts', WHERE WHAT IT READS IS OF BULK AT MOST 1048576: true; the input reads as it did. -/
def receiptTextsUptoRow : OpenClaim := { program := "ytlpmiimgacfmkaagreatdoor", sum := "10746e58735436e7fd2dacc9702a38e07f083d1a99c14468b29d40eb4c2ecba6", func := "replevin/replevinlaw55.ReceiptTexts", spec := "receiptTexts", inPlace := ["internal/abi.NoEscape"], unfollowed := true, recurses := true, named := ["replevin/object.usages", "replevin/sha256.initial", "replevin/sha256.constants", "internal/strconv.uint64pow10", "math/bits.deBruijn32tab", "math/bits.deBruijn64tab"], plainKeys := false, apart := false, laid := [("math/bits.deBruijn32tab", laid_math_bits_deBruijn32tab), ("math/bits.deBruijn64tab", laid_math_bits_deBruijn64tab), ("internal/strconv.uint64pow10", laid_internal_strconv_uint64pow10), ("replevin/sha256.initial", laid_replevin_sha256_initial), ("replevin/sha256.constants", laid_replevin_sha256_constants), ("replevin/object.usages", laid_replevin_object_usages)], narrowed := true }
def ReceiptTextsUptoSaid : Prop := receiptTextsUptoRow.holds Tryz.pinned (OpenSpec.upto receiptTextsSpec)

end Rows
end Go.Proofs.YtlpmiimgacfmkaaGreatDoor
