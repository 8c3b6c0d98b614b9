/-
  No cell of these rows narrows 'for every input' (looked for: loops, veiled, ifaces, maps, wideKeys, modest, calm, conditions, laid).
  DERIVED. THE GIVEN ROWS OF THIS SEAT. 19 by the template 'for every input the law returns true; each argument reads behind the call as it read before'; 0 by the template 'total and deterministic' (their statements: YtdkapdgbfejgdaaTotals.lean).
  GIVEN WITH THE SEED: the statements are not yours to turn. If you find one false, say at which input.
  Laid BY PROGRAM, IN A SANDBOX (cutbox-rows.mjs): the forced cells as the released guide's own fill.sh prints them over the translation d579254630006531… (all of the seat's roots in one cut). By AI agents, Wed Nov 11 2026. No macro, syntax, notation, axiom, sorry.
-/
import Derived.Test.YtdkapdgbfejgdaaChecked
import GoSem.Claim
import GoSem.ClaimJoined
import GoSem.ClaimMapViews
import Derived.JoinedTies
import Derived.KernelRfl
namespace Go.Proofs.Ytdkapdgbfejgdaa
/- THE CELL 'sum', in the pinned program and in every row, IS THE sha256 OF THE DUMP (.gsa) THAT YtdkapdgbfejgdaaProg.lean LOADS. Nothing in Lean hashes anything: it is a label: what it is worth is what the hold of that sum in a sandbox is worth. -/
noncomputable def Try.pinned : Pinned := { name := "ytdkapdgbfejgdaa", sum := "d579254630006531ef4179fe4725a635a0b20201a203294b55c7307cfde65844", checked := Try.checked }
namespace Rows
def none {H : Type} : Left H := { results := [], args := [] }

/-- 'ontimelaw01.BigintParses': WHATEVER THE INPUT: true; the input reads as it did. -/
def bigintParsesSpec : ChangeSpec := { name := "bigintParses", fn := fun _ => fun
  | [d] => { results := [.lit (.bool true)], args := [d] }
  | _ => none }
def bigintParsesRow : OpenClaim := { program := "ytdkapdgbfejgdaa", sum := "d579254630006531ef4179fe4725a635a0b20201a203294b55c7307cfde65844", func := "ontime/ontimelaw01.BigintParses", spec := "bigintParses", unfollowed := true, recurses := true, apart := false }
def BigintParsesSaid : Prop := bigintParsesRow.holds Try.pinned (OpenSpec.ofChange bigintParsesSpec)

/-- ITS FALSE NEIGHBOUR: 'it returns false'. Refute it at one input. -/
def bigintParsesWrong : ChangeSpec := { name := "bigintParses", fn := fun _ => fun
  | [d] => { results := [.lit (.bool false)], args := [d] }
  | _ => none }
def BigintParsesWrongFalsely : Prop := bigintParsesRow.holds Try.pinned (OpenSpec.ofChange bigintParsesWrong)

/-- 'ontimelaw01.BigintSmall': WHATEVER THE INPUT: true; the input reads as it did. -/
def bigintSmallSpec : ChangeSpec := { name := "bigintSmall", fn := fun _ => fun
  | [d1, d2] => { results := [.lit (.bool true)], args := [d1, d2] }
  | _ => none }
def bigintSmallRow : OpenClaim := { program := "ytdkapdgbfejgdaa", sum := "d579254630006531ef4179fe4725a635a0b20201a203294b55c7307cfde65844", func := "ontime/ontimelaw01.BigintSmall", spec := "bigintSmall", unfollowed := true, recurses := true, apart := false }
def BigintSmallSaid : Prop := bigintSmallRow.holds Try.pinned (OpenSpec.ofChange bigintSmallSpec)

/-- ITS FALSE NEIGHBOUR: 'it returns false'. Refute it at one input. -/
def bigintSmallWrong : ChangeSpec := { name := "bigintSmall", fn := fun _ => fun
  | [d1, d2] => { results := [.lit (.bool false)], args := [d1, d2] }
  | _ => none }
def BigintSmallWrongFalsely : Prop := bigintSmallRow.holds Try.pinned (OpenSpec.ofChange bigintSmallWrong)

/-- 'ontimelaw01.BigintDivides': WHATEVER THE INPUT: true; the input reads as it did. -/
def bigintDividesSpec : ChangeSpec := { name := "bigintDivides", fn := fun _ => fun
  | [d1, d2] => { results := [.lit (.bool true)], args := [d1, d2] }
  | _ => none }
def bigintDividesRow : OpenClaim := { program := "ytdkapdgbfejgdaa", sum := "d579254630006531ef4179fe4725a635a0b20201a203294b55c7307cfde65844", func := "ontime/ontimelaw01.BigintDivides", spec := "bigintDivides", unfollowed := true, recurses := true, apart := false }
def BigintDividesSaid : Prop := bigintDividesRow.holds Try.pinned (OpenSpec.ofChange bigintDividesSpec)

/-- ITS FALSE NEIGHBOUR: 'it returns false'. Refute it at one input. -/
def bigintDividesWrong : ChangeSpec := { name := "bigintDivides", fn := fun _ => fun
  | [d1, d2] => { results := [.lit (.bool false)], args := [d1, d2] }
  | _ => none }
def BigintDividesWrongFalsely : Prop := bigintDividesRow.holds Try.pinned (OpenSpec.ofChange bigintDividesWrong)

/-- 'ontimelaw01.BigintBits': WHATEVER THE INPUT: true; the input reads as it did. -/
def bigintBitsSpec : ChangeSpec := { name := "bigintBits", fn := fun _ => fun
  | [d] => { results := [.lit (.bool true)], args := [d] }
  | _ => none }
def bigintBitsRow : OpenClaim := { program := "ytdkapdgbfejgdaa", sum := "d579254630006531ef4179fe4725a635a0b20201a203294b55c7307cfde65844", func := "ontime/ontimelaw01.BigintBits", spec := "bigintBits", unfollowed := true, recurses := true, apart := false }
def BigintBitsSaid : Prop := bigintBitsRow.holds Try.pinned (OpenSpec.ofChange bigintBitsSpec)

/-- ITS FALSE NEIGHBOUR: 'it returns false'. Refute it at one input. -/
def bigintBitsWrong : ChangeSpec := { name := "bigintBits", fn := fun _ => fun
  | [d] => { results := [.lit (.bool false)], args := [d] }
  | _ => none }
def BigintBitsWrongFalsely : Prop := bigintBitsRow.holds Try.pinned (OpenSpec.ofChange bigintBitsWrong)

/-- 'ontimelaw02.RationalSmall': WHATEVER THE INPUT: true; the input reads as it did. -/
def rationalSmallSpec : ChangeSpec := { name := "rationalSmall", fn := fun _ => fun
  | [d1, d2, d3, d4] => { results := [.lit (.bool true)], args := [d1, d2, d3, d4] }
  | _ => none }
def rationalSmallRow : OpenClaim := { program := "ytdkapdgbfejgdaa", sum := "d579254630006531ef4179fe4725a635a0b20201a203294b55c7307cfde65844", func := "ontime/ontimelaw02.RationalSmall", spec := "rationalSmall", inPlace := ["internal/bytealg.IndexByteString", "internal/bytealg.IndexString"], unfollowed := true, recurses := true, named := ["internal/bytealg.MaxLen"], apart := false }
def RationalSmallSaid : Prop := rationalSmallRow.holds Try.pinned (OpenSpec.ofChange rationalSmallSpec)

/-- ITS FALSE NEIGHBOUR: 'it returns false'. Refute it at one input. -/
def rationalSmallWrong : ChangeSpec := { name := "rationalSmall", fn := fun _ => fun
  | [d1, d2, d3, d4] => { results := [.lit (.bool false)], args := [d1, d2, d3, d4] }
  | _ => none }
def RationalSmallWrongFalsely : Prop := rationalSmallRow.holds Try.pinned (OpenSpec.ofChange rationalSmallWrong)

/-- 'ontimelaw01.BigintFull': WHATEVER THE INPUT: true; the input reads as it did. -/
def bigintFullSpec : ChangeSpec := { name := "bigintFull", fn := fun _ => fun
  | [d] => { results := [.lit (.bool true)], args := [d] }
  | _ => none }
def bigintFullRow : OpenClaim := { program := "ytdkapdgbfejgdaa", sum := "d579254630006531ef4179fe4725a635a0b20201a203294b55c7307cfde65844", func := "ontime/ontimelaw01.BigintFull", spec := "bigintFull", unfollowed := true, recurses := true, apart := false }
def BigintFullSaid : Prop := bigintFullRow.holds Try.pinned (OpenSpec.ofChange bigintFullSpec)

/-- ITS FALSE NEIGHBOUR: 'it returns false'. Refute it at one input. -/
def bigintFullWrong : ChangeSpec := { name := "bigintFull", fn := fun _ => fun
  | [d] => { results := [.lit (.bool false)], args := [d] }
  | _ => none }
def BigintFullWrongFalsely : Prop := bigintFullRow.holds Try.pinned (OpenSpec.ofChange bigintFullWrong)

/-- 'ontimelaw02.RationalZero': WHATEVER THE INPUT: true; the input reads as it did. -/
def rationalZeroSpec : ChangeSpec := { name := "rationalZero", fn := fun _ => fun
  | [d1, d2] => { results := [.lit (.bool true)], args := [d1, d2] }
  | _ => none }
def rationalZeroRow : OpenClaim := { program := "ytdkapdgbfejgdaa", sum := "d579254630006531ef4179fe4725a635a0b20201a203294b55c7307cfde65844", func := "ontime/ontimelaw02.RationalZero", spec := "rationalZero", inPlace := ["internal/bytealg.IndexByteString", "internal/bytealg.IndexString"], unfollowed := true, recurses := true, named := ["internal/bytealg.MaxLen"], apart := false }
def RationalZeroSaid : Prop := rationalZeroRow.holds Try.pinned (OpenSpec.ofChange rationalZeroSpec)

/-- ITS FALSE NEIGHBOUR: 'it returns false'. Refute it at one input. -/
def rationalZeroWrong : ChangeSpec := { name := "rationalZero", fn := fun _ => fun
  | [d1, d2] => { results := [.lit (.bool false)], args := [d1, d2] }
  | _ => none }
def RationalZeroWrongFalsely : Prop := rationalZeroRow.holds Try.pinned (OpenSpec.ofChange rationalZeroWrong)

/-- 'ontimelaw01.BigintComputes': WHATEVER THE INPUT: true; the input reads as it did. -/
def bigintComputesSpec : ChangeSpec := { name := "bigintComputes", fn := fun _ => fun
  | [d1, d2] => { results := [.lit (.bool true)], args := [d1, d2] }
  | _ => none }
def bigintComputesRow : OpenClaim := { program := "ytdkapdgbfejgdaa", sum := "d579254630006531ef4179fe4725a635a0b20201a203294b55c7307cfde65844", func := "ontime/ontimelaw01.BigintComputes", spec := "bigintComputes", unfollowed := true, recurses := true, apart := false }
def BigintComputesSaid : Prop := bigintComputesRow.holds Try.pinned (OpenSpec.ofChange bigintComputesSpec)

/-- ITS FALSE NEIGHBOUR: 'it returns false'. Refute it at one input. -/
def bigintComputesWrong : ChangeSpec := { name := "bigintComputes", fn := fun _ => fun
  | [d1, d2] => { results := [.lit (.bool false)], args := [d1, d2] }
  | _ => none }
def BigintComputesWrongFalsely : Prop := bigintComputesRow.holds Try.pinned (OpenSpec.ofChange bigintComputesWrong)

/-- 'ontimelaw01.BigintRing': WHATEVER THE INPUT: true; the input reads as it did. -/
def bigintRingSpec : ChangeSpec := { name := "bigintRing", fn := fun _ => fun
  | [d1, d2, d3] => { results := [.lit (.bool true)], args := [d1, d2, d3] }
  | _ => none }
def bigintRingRow : OpenClaim := { program := "ytdkapdgbfejgdaa", sum := "d579254630006531ef4179fe4725a635a0b20201a203294b55c7307cfde65844", func := "ontime/ontimelaw01.BigintRing", spec := "bigintRing", unfollowed := true, recurses := true, apart := false }
def BigintRingSaid : Prop := bigintRingRow.holds Try.pinned (OpenSpec.ofChange bigintRingSpec)

/-- ITS FALSE NEIGHBOUR: 'it returns false'. Refute it at one input. -/
def bigintRingWrong : ChangeSpec := { name := "bigintRing", fn := fun _ => fun
  | [d1, d2, d3] => { results := [.lit (.bool false)], args := [d1, d2, d3] }
  | _ => none }
def BigintRingWrongFalsely : Prop := bigintRingRow.holds Try.pinned (OpenSpec.ofChange bigintRingWrong)

/-- 'ontimelaw01.BigintOrders': WHATEVER THE INPUT: true; the input reads as it did. -/
def bigintOrdersSpec : ChangeSpec := { name := "bigintOrders", fn := fun _ => fun
  | [d1, d2, d3] => { results := [.lit (.bool true)], args := [d1, d2, d3] }
  | _ => none }
def bigintOrdersRow : OpenClaim := { program := "ytdkapdgbfejgdaa", sum := "d579254630006531ef4179fe4725a635a0b20201a203294b55c7307cfde65844", func := "ontime/ontimelaw01.BigintOrders", spec := "bigintOrders", unfollowed := true, recurses := true, apart := false }
def BigintOrdersSaid : Prop := bigintOrdersRow.holds Try.pinned (OpenSpec.ofChange bigintOrdersSpec)

/-- ITS FALSE NEIGHBOUR: 'it returns false'. Refute it at one input. -/
def bigintOrdersWrong : ChangeSpec := { name := "bigintOrders", fn := fun _ => fun
  | [d1, d2, d3] => { results := [.lit (.bool false)], args := [d1, d2, d3] }
  | _ => none }
def BigintOrdersWrongFalsely : Prop := bigintOrdersRow.holds Try.pinned (OpenSpec.ofChange bigintOrdersWrong)

/-- 'ontimelaw01.BigintGcd': WHATEVER THE INPUT: true; the input reads as it did. -/
def bigintGcdSpec : ChangeSpec := { name := "bigintGcd", fn := fun _ => fun
  | [d1, d2] => { results := [.lit (.bool true)], args := [d1, d2] }
  | _ => none }
def bigintGcdRow : OpenClaim := { program := "ytdkapdgbfejgdaa", sum := "d579254630006531ef4179fe4725a635a0b20201a203294b55c7307cfde65844", func := "ontime/ontimelaw01.BigintGcd", spec := "bigintGcd", unfollowed := true, recurses := true, apart := false }
def BigintGcdSaid : Prop := bigintGcdRow.holds Try.pinned (OpenSpec.ofChange bigintGcdSpec)

/-- ITS FALSE NEIGHBOUR: 'it returns false'. Refute it at one input. -/
def bigintGcdWrong : ChangeSpec := { name := "bigintGcd", fn := fun _ => fun
  | [d1, d2] => { results := [.lit (.bool false)], args := [d1, d2] }
  | _ => none }
def BigintGcdWrongFalsely : Prop := bigintGcdRow.holds Try.pinned (OpenSpec.ofChange bigintGcdWrong)

/-- 'ontimelaw01.BigintInts': WHATEVER THE INPUT: true; the input reads as it did. -/
def bigintIntsSpec : ChangeSpec := { name := "bigintInts", fn := fun _ => fun
  | [d1, d2] => { results := [.lit (.bool true)], args := [d1, d2] }
  | _ => none }
def bigintIntsRow : OpenClaim := { program := "ytdkapdgbfejgdaa", sum := "d579254630006531ef4179fe4725a635a0b20201a203294b55c7307cfde65844", func := "ontime/ontimelaw01.BigintInts", spec := "bigintInts", unfollowed := true, recurses := true, apart := false }
def BigintIntsSaid : Prop := bigintIntsRow.holds Try.pinned (OpenSpec.ofChange bigintIntsSpec)

/-- ITS FALSE NEIGHBOUR: 'it returns false'. Refute it at one input. -/
def bigintIntsWrong : ChangeSpec := { name := "bigintInts", fn := fun _ => fun
  | [d1, d2] => { results := [.lit (.bool false)], args := [d1, d2] }
  | _ => none }
def BigintIntsWrongFalsely : Prop := bigintIntsRow.holds Try.pinned (OpenSpec.ofChange bigintIntsWrong)

/-- 'ontimelaw02.RationalFull': WHATEVER THE INPUT: true; the input reads as it did. -/
def rationalFullSpec : ChangeSpec := { name := "rationalFull", fn := fun _ => fun
  | [d1, d2] => { results := [.lit (.bool true)], args := [d1, d2] }
  | _ => none }
def rationalFullRow : OpenClaim := { program := "ytdkapdgbfejgdaa", sum := "d579254630006531ef4179fe4725a635a0b20201a203294b55c7307cfde65844", func := "ontime/ontimelaw02.RationalFull", spec := "rationalFull", inPlace := ["internal/bytealg.IndexByteString", "internal/bytealg.IndexString"], unfollowed := true, recurses := true, named := ["internal/bytealg.MaxLen"], apart := false }
def RationalFullSaid : Prop := rationalFullRow.holds Try.pinned (OpenSpec.ofChange rationalFullSpec)

/-- ITS FALSE NEIGHBOUR: 'it returns false'. Refute it at one input. -/
def rationalFullWrong : ChangeSpec := { name := "rationalFull", fn := fun _ => fun
  | [d1, d2] => { results := [.lit (.bool false)], args := [d1, d2] }
  | _ => none }
def RationalFullWrongFalsely : Prop := rationalFullRow.holds Try.pinned (OpenSpec.ofChange rationalFullWrong)

/-- 'ontimelaw02.RationalParses': WHATEVER THE INPUT: true; the input reads as it did. -/
def rationalParsesSpec : ChangeSpec := { name := "rationalParses", fn := fun _ => fun
  | [d] => { results := [.lit (.bool true)], args := [d] }
  | _ => none }
def rationalParsesRow : OpenClaim := { program := "ytdkapdgbfejgdaa", sum := "d579254630006531ef4179fe4725a635a0b20201a203294b55c7307cfde65844", func := "ontime/ontimelaw02.RationalParses", spec := "rationalParses", inPlace := ["internal/bytealg.IndexByteString", "internal/bytealg.IndexString"], unfollowed := true, recurses := true, named := ["internal/bytealg.MaxLen"], apart := false }
def RationalParsesSaid : Prop := rationalParsesRow.holds Try.pinned (OpenSpec.ofChange rationalParsesSpec)

/-- ITS FALSE NEIGHBOUR: 'it returns false'. Refute it at one input. -/
def rationalParsesWrong : ChangeSpec := { name := "rationalParses", fn := fun _ => fun
  | [d] => { results := [.lit (.bool false)], args := [d] }
  | _ => none }
def RationalParsesWrongFalsely : Prop := rationalParsesRow.holds Try.pinned (OpenSpec.ofChange rationalParsesWrong)

/-- 'ontimelaw02.RationalMakes': WHATEVER THE INPUT: true; the input reads as it did. -/
def rationalMakesSpec : ChangeSpec := { name := "rationalMakes", fn := fun _ => fun
  | [d1, d2, d3, d4] => { results := [.lit (.bool true)], args := [d1, d2, d3, d4] }
  | _ => none }
def rationalMakesRow : OpenClaim := { program := "ytdkapdgbfejgdaa", sum := "d579254630006531ef4179fe4725a635a0b20201a203294b55c7307cfde65844", func := "ontime/ontimelaw02.RationalMakes", spec := "rationalMakes", inPlace := ["internal/bytealg.IndexByteString", "internal/bytealg.IndexString"], unfollowed := true, recurses := true, named := ["internal/bytealg.MaxLen"], apart := false }
def RationalMakesSaid : Prop := rationalMakesRow.holds Try.pinned (OpenSpec.ofChange rationalMakesSpec)

/-- ITS FALSE NEIGHBOUR: 'it returns false'. Refute it at one input. -/
def rationalMakesWrong : ChangeSpec := { name := "rationalMakes", fn := fun _ => fun
  | [d1, d2, d3, d4] => { results := [.lit (.bool false)], args := [d1, d2, d3, d4] }
  | _ => none }
def RationalMakesWrongFalsely : Prop := rationalMakesRow.holds Try.pinned (OpenSpec.ofChange rationalMakesWrong)

/-- 'ontimelaw02.RationalRounds': WHATEVER THE INPUT: true; the input reads as it did. -/
def rationalRoundsSpec : ChangeSpec := { name := "rationalRounds", fn := fun _ => fun
  | [d] => { results := [.lit (.bool true)], args := [d] }
  | _ => none }
def rationalRoundsRow : OpenClaim := { program := "ytdkapdgbfejgdaa", sum := "d579254630006531ef4179fe4725a635a0b20201a203294b55c7307cfde65844", func := "ontime/ontimelaw02.RationalRounds", spec := "rationalRounds", inPlace := ["internal/bytealg.IndexByteString", "internal/bytealg.IndexString"], unfollowed := true, recurses := true, named := ["internal/bytealg.MaxLen"], apart := false }
def RationalRoundsSaid : Prop := rationalRoundsRow.holds Try.pinned (OpenSpec.ofChange rationalRoundsSpec)

/-- ITS FALSE NEIGHBOUR: 'it returns false'. Refute it at one input. -/
def rationalRoundsWrong : ChangeSpec := { name := "rationalRounds", fn := fun _ => fun
  | [d] => { results := [.lit (.bool false)], args := [d] }
  | _ => none }
def RationalRoundsWrongFalsely : Prop := rationalRoundsRow.holds Try.pinned (OpenSpec.ofChange rationalRoundsWrong)

/-- 'ontimelaw02.RationalOrders': WHATEVER THE INPUT: true; the input reads as it did. -/
def rationalOrdersSpec : ChangeSpec := { name := "rationalOrders", fn := fun _ => fun
  | [d1, d2, d3] => { results := [.lit (.bool true)], args := [d1, d2, d3] }
  | _ => none }
def rationalOrdersRow : OpenClaim := { program := "ytdkapdgbfejgdaa", sum := "d579254630006531ef4179fe4725a635a0b20201a203294b55c7307cfde65844", func := "ontime/ontimelaw02.RationalOrders", spec := "rationalOrders", inPlace := ["internal/bytealg.IndexByteString", "internal/bytealg.IndexString"], unfollowed := true, recurses := true, named := ["internal/bytealg.MaxLen"], apart := false }
def RationalOrdersSaid : Prop := rationalOrdersRow.holds Try.pinned (OpenSpec.ofChange rationalOrdersSpec)

/-- ITS FALSE NEIGHBOUR: 'it returns false'. Refute it at one input. -/
def rationalOrdersWrong : ChangeSpec := { name := "rationalOrders", fn := fun _ => fun
  | [d1, d2, d3] => { results := [.lit (.bool false)], args := [d1, d2, d3] }
  | _ => none }
def RationalOrdersWrongFalsely : Prop := rationalOrdersRow.holds Try.pinned (OpenSpec.ofChange rationalOrdersWrong)

/-- 'ontimelaw02.RationalComputes': WHATEVER THE INPUT: true; the input reads as it did. -/
def rationalComputesSpec : ChangeSpec := { name := "rationalComputes", fn := fun _ => fun
  | [d1, d2] => { results := [.lit (.bool true)], args := [d1, d2] }
  | _ => none }
def rationalComputesRow : OpenClaim := { program := "ytdkapdgbfejgdaa", sum := "d579254630006531ef4179fe4725a635a0b20201a203294b55c7307cfde65844", func := "ontime/ontimelaw02.RationalComputes", spec := "rationalComputes", inPlace := ["internal/bytealg.IndexByteString", "internal/bytealg.IndexString"], unfollowed := true, recurses := true, named := ["internal/bytealg.MaxLen"], apart := false }
def RationalComputesSaid : Prop := rationalComputesRow.holds Try.pinned (OpenSpec.ofChange rationalComputesSpec)

/-- ITS FALSE NEIGHBOUR: 'it returns false'. Refute it at one input. -/
def rationalComputesWrong : ChangeSpec := { name := "rationalComputes", fn := fun _ => fun
  | [d1, d2] => { results := [.lit (.bool false)], args := [d1, d2] }
  | _ => none }
def RationalComputesWrongFalsely : Prop := rationalComputesRow.holds Try.pinned (OpenSpec.ofChange rationalComputesWrong)

/-- 'ontimelaw02.RationalField': WHATEVER THE INPUT: true; the input reads as it did. -/
def rationalFieldSpec : ChangeSpec := { name := "rationalField", fn := fun _ => fun
  | [d1, d2, d3] => { results := [.lit (.bool true)], args := [d1, d2, d3] }
  | _ => none }
def rationalFieldRow : OpenClaim := { program := "ytdkapdgbfejgdaa", sum := "d579254630006531ef4179fe4725a635a0b20201a203294b55c7307cfde65844", func := "ontime/ontimelaw02.RationalField", spec := "rationalField", inPlace := ["internal/bytealg.IndexByteString", "internal/bytealg.IndexString"], unfollowed := true, recurses := true, named := ["internal/bytealg.MaxLen"], apart := false }
def RationalFieldSaid : Prop := rationalFieldRow.holds Try.pinned (OpenSpec.ofChange rationalFieldSpec)

/-- ITS FALSE NEIGHBOUR: 'it returns false'. Refute it at one input. -/
def rationalFieldWrong : ChangeSpec := { name := "rationalField", fn := fun _ => fun
  | [d1, d2, d3] => { results := [.lit (.bool false)], args := [d1, d2, d3] }
  | _ => none }
def RationalFieldWrongFalsely : Prop := rationalFieldRow.holds Try.pinned (OpenSpec.ofChange rationalFieldWrong)

/- THE SECOND FORM. 'bulk': how many values and letters a reading holds, each counted each time it is reached (what is shared counts as often as it is met; a slice's spare places count too). A statement '..UptoSaid' is the law's where the arguments, and the package variables that the reading takes, are together of bulk at most 1048576: NARROWER than '..Said'. Prove '..Said' where nothing that the law and all that it calls make is longer than what came in: it says more and counts as full. Else prove '..UptoSaid'. A law counts once. -/
mutual
def uptoBulk {H : Type} : DataW H → Nat
  | .lit (.string bytes) => bytes.length + 1
  | .lit _ => 1
  | .nil => 1
  | .ptr d => uptoBulk d + 1
  | .slice elems spare => uptoBulkAll elems + uptoBulkAll spare + 1
  | .agg parts => uptoBulkAll parts + 1
  | .iface _ d => uptoBulk d + 1
  | .map entries => uptoBulkEntries entries + 1
  | .held _ => 1
def uptoBulkAll {H : Type} : List (DataW H) → Nat
  | [] => 0
  | d :: r => uptoBulk d + uptoBulkAll r
def uptoBulkEntries {H : Type} : List (Lit × DataW H) → Nat
  | [] => 0
  | x :: r => uptoBulkEntry x + uptoBulkEntries r
def uptoBulkEntry {H : Type} : Lit × DataW H → Nat
  | (.string bytes, d) => bytes.length + uptoBulk d + 1
  | (_, d) => uptoBulk d + 1
 end
def uptoSmall : (H : Type) → List (DataW H) → Bool := fun _ ds => decide (uptoBulkAll ds ≤ 1048576)
def OpenSpec.upto (s : _root_.Go.ChangeSpec) : _root_.Go.OpenSpec := { _root_.Go.OpenSpec.ofChange s with cond := some uptoSmall }

/-- 'ontimelaw01.BigintParses', WHERE WHAT IT READS IS OF BULK AT MOST 1048576: true; the input reads as it did. -/
def bigintParsesUptoRow : OpenClaim := { program := "ytdkapdgbfejgdaa", sum := "d579254630006531ef4179fe4725a635a0b20201a203294b55c7307cfde65844", func := "ontime/ontimelaw01.BigintParses", spec := "bigintParses", unfollowed := true, recurses := true, apart := false, narrowed := true }
def BigintParsesUptoSaid : Prop := bigintParsesUptoRow.holds Try.pinned (OpenSpec.upto bigintParsesSpec)

/-- 'ontimelaw01.BigintSmall', WHERE WHAT IT READS IS OF BULK AT MOST 1048576: true; the input reads as it did. -/
def bigintSmallUptoRow : OpenClaim := { program := "ytdkapdgbfejgdaa", sum := "d579254630006531ef4179fe4725a635a0b20201a203294b55c7307cfde65844", func := "ontime/ontimelaw01.BigintSmall", spec := "bigintSmall", unfollowed := true, recurses := true, apart := false, narrowed := true }
def BigintSmallUptoSaid : Prop := bigintSmallUptoRow.holds Try.pinned (OpenSpec.upto bigintSmallSpec)

/-- 'ontimelaw01.BigintDivides', WHERE WHAT IT READS IS OF BULK AT MOST 1048576: true; the input reads as it did. -/
def bigintDividesUptoRow : OpenClaim := { program := "ytdkapdgbfejgdaa", sum := "d579254630006531ef4179fe4725a635a0b20201a203294b55c7307cfde65844", func := "ontime/ontimelaw01.BigintDivides", spec := "bigintDivides", unfollowed := true, recurses := true, apart := false, narrowed := true }
def BigintDividesUptoSaid : Prop := bigintDividesUptoRow.holds Try.pinned (OpenSpec.upto bigintDividesSpec)

/-- 'ontimelaw01.BigintBits', WHERE WHAT IT READS IS OF BULK AT MOST 1048576: true; the input reads as it did. -/
def bigintBitsUptoRow : OpenClaim := { program := "ytdkapdgbfejgdaa", sum := "d579254630006531ef4179fe4725a635a0b20201a203294b55c7307cfde65844", func := "ontime/ontimelaw01.BigintBits", spec := "bigintBits", unfollowed := true, recurses := true, apart := false, narrowed := true }
def BigintBitsUptoSaid : Prop := bigintBitsUptoRow.holds Try.pinned (OpenSpec.upto bigintBitsSpec)

/-- 'ontimelaw02.RationalSmall', WHERE WHAT IT READS IS OF BULK AT MOST 1048576: true; the input reads as it did. -/
def rationalSmallUptoRow : OpenClaim := { program := "ytdkapdgbfejgdaa", sum := "d579254630006531ef4179fe4725a635a0b20201a203294b55c7307cfde65844", func := "ontime/ontimelaw02.RationalSmall", spec := "rationalSmall", inPlace := ["internal/bytealg.IndexByteString", "internal/bytealg.IndexString"], unfollowed := true, recurses := true, named := ["internal/bytealg.MaxLen"], apart := false, narrowed := true }
def RationalSmallUptoSaid : Prop := rationalSmallUptoRow.holds Try.pinned (OpenSpec.upto rationalSmallSpec)

/-- 'ontimelaw01.BigintFull', WHERE WHAT IT READS IS OF BULK AT MOST 1048576: true; the input reads as it did. -/
def bigintFullUptoRow : OpenClaim := { program := "ytdkapdgbfejgdaa", sum := "d579254630006531ef4179fe4725a635a0b20201a203294b55c7307cfde65844", func := "ontime/ontimelaw01.BigintFull", spec := "bigintFull", unfollowed := true, recurses := true, apart := false, narrowed := true }
def BigintFullUptoSaid : Prop := bigintFullUptoRow.holds Try.pinned (OpenSpec.upto bigintFullSpec)

/-- 'ontimelaw02.RationalZero', WHERE WHAT IT READS IS OF BULK AT MOST 1048576: true; the input reads as it did. -/
def rationalZeroUptoRow : OpenClaim := { program := "ytdkapdgbfejgdaa", sum := "d579254630006531ef4179fe4725a635a0b20201a203294b55c7307cfde65844", func := "ontime/ontimelaw02.RationalZero", spec := "rationalZero", inPlace := ["internal/bytealg.IndexByteString", "internal/bytealg.IndexString"], unfollowed := true, recurses := true, named := ["internal/bytealg.MaxLen"], apart := false, narrowed := true }
def RationalZeroUptoSaid : Prop := rationalZeroUptoRow.holds Try.pinned (OpenSpec.upto rationalZeroSpec)

/-- 'ontimelaw01.BigintComputes', WHERE WHAT IT READS IS OF BULK AT MOST 1048576: true; the input reads as it did. -/
def bigintComputesUptoRow : OpenClaim := { program := "ytdkapdgbfejgdaa", sum := "d579254630006531ef4179fe4725a635a0b20201a203294b55c7307cfde65844", func := "ontime/ontimelaw01.BigintComputes", spec := "bigintComputes", unfollowed := true, recurses := true, apart := false, narrowed := true }
def BigintComputesUptoSaid : Prop := bigintComputesUptoRow.holds Try.pinned (OpenSpec.upto bigintComputesSpec)

/-- 'ontimelaw01.BigintRing', WHERE WHAT IT READS IS OF BULK AT MOST 1048576: true; the input reads as it did. -/
def bigintRingUptoRow : OpenClaim := { program := "ytdkapdgbfejgdaa", sum := "d579254630006531ef4179fe4725a635a0b20201a203294b55c7307cfde65844", func := "ontime/ontimelaw01.BigintRing", spec := "bigintRing", unfollowed := true, recurses := true, apart := false, narrowed := true }
def BigintRingUptoSaid : Prop := bigintRingUptoRow.holds Try.pinned (OpenSpec.upto bigintRingSpec)

/-- 'ontimelaw01.BigintOrders', WHERE WHAT IT READS IS OF BULK AT MOST 1048576: true; the input reads as it did. -/
def bigintOrdersUptoRow : OpenClaim := { program := "ytdkapdgbfejgdaa", sum := "d579254630006531ef4179fe4725a635a0b20201a203294b55c7307cfde65844", func := "ontime/ontimelaw01.BigintOrders", spec := "bigintOrders", unfollowed := true, recurses := true, apart := false, narrowed := true }
def BigintOrdersUptoSaid : Prop := bigintOrdersUptoRow.holds Try.pinned (OpenSpec.upto bigintOrdersSpec)

/-- 'ontimelaw01.BigintGcd', WHERE WHAT IT READS IS OF BULK AT MOST 1048576: true; the input reads as it did. -/
def bigintGcdUptoRow : OpenClaim := { program := "ytdkapdgbfejgdaa", sum := "d579254630006531ef4179fe4725a635a0b20201a203294b55c7307cfde65844", func := "ontime/ontimelaw01.BigintGcd", spec := "bigintGcd", unfollowed := true, recurses := true, apart := false, narrowed := true }
def BigintGcdUptoSaid : Prop := bigintGcdUptoRow.holds Try.pinned (OpenSpec.upto bigintGcdSpec)

/-- 'ontimelaw01.BigintInts', WHERE WHAT IT READS IS OF BULK AT MOST 1048576: true; the input reads as it did. -/
def bigintIntsUptoRow : OpenClaim := { program := "ytdkapdgbfejgdaa", sum := "d579254630006531ef4179fe4725a635a0b20201a203294b55c7307cfde65844", func := "ontime/ontimelaw01.BigintInts", spec := "bigintInts", unfollowed := true, recurses := true, apart := false, narrowed := true }
def BigintIntsUptoSaid : Prop := bigintIntsUptoRow.holds Try.pinned (OpenSpec.upto bigintIntsSpec)

/-- 'ontimelaw02.RationalFull', WHERE WHAT IT READS IS OF BULK AT MOST 1048576: true; the input reads as it did. -/
def rationalFullUptoRow : OpenClaim := { program := "ytdkapdgbfejgdaa", sum := "d579254630006531ef4179fe4725a635a0b20201a203294b55c7307cfde65844", func := "ontime/ontimelaw02.RationalFull", spec := "rationalFull", inPlace := ["internal/bytealg.IndexByteString", "internal/bytealg.IndexString"], unfollowed := true, recurses := true, named := ["internal/bytealg.MaxLen"], apart := false, narrowed := true }
def RationalFullUptoSaid : Prop := rationalFullUptoRow.holds Try.pinned (OpenSpec.upto rationalFullSpec)

/-- 'ontimelaw02.RationalParses', WHERE WHAT IT READS IS OF BULK AT MOST 1048576: true; the input reads as it did. -/
def rationalParsesUptoRow : OpenClaim := { program := "ytdkapdgbfejgdaa", sum := "d579254630006531ef4179fe4725a635a0b20201a203294b55c7307cfde65844", func := "ontime/ontimelaw02.RationalParses", spec := "rationalParses", inPlace := ["internal/bytealg.IndexByteString", "internal/bytealg.IndexString"], unfollowed := true, recurses := true, named := ["internal/bytealg.MaxLen"], apart := false, narrowed := true }
def RationalParsesUptoSaid : Prop := rationalParsesUptoRow.holds Try.pinned (OpenSpec.upto rationalParsesSpec)

/-- 'ontimelaw02.RationalMakes', WHERE WHAT IT READS IS OF BULK AT MOST 1048576: true; the input reads as it did. -/
def rationalMakesUptoRow : OpenClaim := { program := "ytdkapdgbfejgdaa", sum := "d579254630006531ef4179fe4725a635a0b20201a203294b55c7307cfde65844", func := "ontime/ontimelaw02.RationalMakes", spec := "rationalMakes", inPlace := ["internal/bytealg.IndexByteString", "internal/bytealg.IndexString"], unfollowed := true, recurses := true, named := ["internal/bytealg.MaxLen"], apart := false, narrowed := true }
def RationalMakesUptoSaid : Prop := rationalMakesUptoRow.holds Try.pinned (OpenSpec.upto rationalMakesSpec)

/-- 'ontimelaw02.RationalRounds', WHERE WHAT IT READS IS OF BULK AT MOST 1048576: true; the input reads as it did. -/
def rationalRoundsUptoRow : OpenClaim := { program := "ytdkapdgbfejgdaa", sum := "d579254630006531ef4179fe4725a635a0b20201a203294b55c7307cfde65844", func := "ontime/ontimelaw02.RationalRounds", spec := "rationalRounds", inPlace := ["internal/bytealg.IndexByteString", "internal/bytealg.IndexString"], unfollowed := true, recurses := true, named := ["internal/bytealg.MaxLen"], apart := false, narrowed := true }
def RationalRoundsUptoSaid : Prop := rationalRoundsUptoRow.holds Try.pinned (OpenSpec.upto rationalRoundsSpec)

/-- 'ontimelaw02.RationalOrders', WHERE WHAT IT READS IS OF BULK AT MOST 1048576: true; the input reads as it did. -/
def rationalOrdersUptoRow : OpenClaim := { program := "ytdkapdgbfejgdaa", sum := "d579254630006531ef4179fe4725a635a0b20201a203294b55c7307cfde65844", func := "ontime/ontimelaw02.RationalOrders", spec := "rationalOrders", inPlace := ["internal/bytealg.IndexByteString", "internal/bytealg.IndexString"], unfollowed := true, recurses := true, named := ["internal/bytealg.MaxLen"], apart := false, narrowed := true }
def RationalOrdersUptoSaid : Prop := rationalOrdersUptoRow.holds Try.pinned (OpenSpec.upto rationalOrdersSpec)

/-- 'ontimelaw02.RationalComputes', WHERE WHAT IT READS IS OF BULK AT MOST 1048576: true; the input reads as it did. -/
def rationalComputesUptoRow : OpenClaim := { program := "ytdkapdgbfejgdaa", sum := "d579254630006531ef4179fe4725a635a0b20201a203294b55c7307cfde65844", func := "ontime/ontimelaw02.RationalComputes", spec := "rationalComputes", inPlace := ["internal/bytealg.IndexByteString", "internal/bytealg.IndexString"], unfollowed := true, recurses := true, named := ["internal/bytealg.MaxLen"], apart := false, narrowed := true }
def RationalComputesUptoSaid : Prop := rationalComputesUptoRow.holds Try.pinned (OpenSpec.upto rationalComputesSpec)

/-- 'ontimelaw02.RationalField', WHERE WHAT IT READS IS OF BULK AT MOST 1048576: true; the input reads as it did. -/
def rationalFieldUptoRow : OpenClaim := { program := "ytdkapdgbfejgdaa", sum := "d579254630006531ef4179fe4725a635a0b20201a203294b55c7307cfde65844", func := "ontime/ontimelaw02.RationalField", spec := "rationalField", inPlace := ["internal/bytealg.IndexByteString", "internal/bytealg.IndexString"], unfollowed := true, recurses := true, named := ["internal/bytealg.MaxLen"], apart := false, narrowed := true }
def RationalFieldUptoSaid : Prop := rationalFieldUptoRow.holds Try.pinned (OpenSpec.upto rationalFieldSpec)

end Rows
end Go.Proofs.Ytdkapdgbfejgdaa
