/-
  No cell of these rows narrows 'for every input' (looked for: loops, veiled, ifaces, maps, wideKeys, modest, calm, conditions, laid).
  DERIVED. THE GIVEN ROWS OF THIS SEAT. 8 by the template 'for every input the law returns true; each argument reads behind the call as it read before'; 0 by the template 'total and deterministic' (their statements: YtihcnbhcemkncaaTotals.lean).
  GIVEN WITH THE SEED: the statements are not yours to turn. If you find one false, say at which input.
  Laid BY PROGRAM, IN A SANDBOX (cutbox-rows.mjs): the forced cells as the released guide's own fill.sh prints them over the translation 430caea7c0feb200… (all of the seat's roots in one cut). By AI agents, Wed Nov 11 2026. No macro, syntax, notation, axiom, sorry.
-/
import Derived.Test.YtihcnbhcemkncaaChecked
import GoSem.Claim
import GoSem.ClaimJoined
import GoSem.ClaimMapViews
import Derived.JoinedTies
import Derived.KernelRfl
namespace Go.Proofs.Ytihcnbhcemkncaa
/- THE CELL 'sum', in the pinned program and in every row, IS THE sha256 OF THE DUMP (.gsa) THAT YtihcnbhcemkncaaProg.lean LOADS. Nothing in Lean hashes anything: it is a label: what it is worth is what the hold of that sum in a sandbox is worth. -/
noncomputable def Try.pinned : Pinned := { name := "ytihcnbhcemkncaa", sum := "430caea7c0feb20016e7931635dd93914d2c25f171cf8de00987eb9196b663f8", checked := Try.checked }
namespace Rows
def none {H : Type} : Left H := { results := [], args := [] }

/-- 'handshakerlaw22.AfterTells': WHATEVER THE INPUT: true; the input reads as it did. -/
def afterTellsSpec : ChangeSpec := { name := "afterTells", fn := fun _ => fun
  | [d1, d2, d3, d4, d5, d6] => { results := [.lit (.bool true)], args := [d1, d2, d3, d4, d5, d6] }
  | _ => none }
def afterTellsRow : OpenClaim := { program := "ytihcnbhcemkncaa", sum := "430caea7c0feb20016e7931635dd93914d2c25f171cf8de00987eb9196b663f8", func := "handshaker/handshakerlaw22.AfterTells", spec := "afterTells", unfollowed := true, recurses := true, apart := false }
def AfterTellsSaid : Prop := afterTellsRow.holds Try.pinned (OpenSpec.ofChange afterTellsSpec)

/-- ITS FALSE NEIGHBOUR: 'it returns false'. Refute it at one input. -/
def afterTellsWrong : ChangeSpec := { name := "afterTells", fn := fun _ => fun
  | [d1, d2, d3, d4, d5, d6] => { results := [.lit (.bool false)], args := [d1, d2, d3, d4, d5, d6] }
  | _ => none }
def AfterTellsWrongFalsely : Prop := afterTellsRow.holds Try.pinned (OpenSpec.ofChange afterTellsWrong)

/-- 'handshakerlaw22.AfterFused': WHATEVER THE INPUT: true; the input reads as it did. -/
def afterFusedSpec : ChangeSpec := { name := "afterFused", fn := fun _ => fun
  | [d1, d2, d3, d4, d5] => { results := [.lit (.bool true)], args := [d1, d2, d3, d4, d5] }
  | _ => none }
def afterFusedRow : OpenClaim := { program := "ytihcnbhcemkncaa", sum := "430caea7c0feb20016e7931635dd93914d2c25f171cf8de00987eb9196b663f8", func := "handshaker/handshakerlaw22.AfterFused", spec := "afterFused", unfollowed := true, recurses := true, apart := false }
def AfterFusedSaid : Prop := afterFusedRow.holds Try.pinned (OpenSpec.ofChange afterFusedSpec)

/-- ITS FALSE NEIGHBOUR: 'it returns false'. Refute it at one input. -/
def afterFusedWrong : ChangeSpec := { name := "afterFused", fn := fun _ => fun
  | [d1, d2, d3, d4, d5] => { results := [.lit (.bool false)], args := [d1, d2, d3, d4, d5] }
  | _ => none }
def AfterFusedWrongFalsely : Prop := afterFusedRow.holds Try.pinned (OpenSpec.ofChange afterFusedWrong)

/-- 'handshakerlaw22.AfterOrder': WHATEVER THE INPUT: true; the input reads as it did. -/
def afterOrderSpec : ChangeSpec := { name := "afterOrder", fn := fun _ => fun
  | [d1, d2, d3] => { results := [.lit (.bool true)], args := [d1, d2, d3] }
  | _ => none }
def afterOrderRow : OpenClaim := { program := "ytihcnbhcemkncaa", sum := "430caea7c0feb20016e7931635dd93914d2c25f171cf8de00987eb9196b663f8", func := "handshaker/handshakerlaw22.AfterOrder", spec := "afterOrder", unfollowed := true, recurses := true, apart := false }
def AfterOrderSaid : Prop := afterOrderRow.holds Try.pinned (OpenSpec.ofChange afterOrderSpec)

/-- ITS FALSE NEIGHBOUR: 'it returns false'. Refute it at one input. -/
def afterOrderWrong : ChangeSpec := { name := "afterOrder", fn := fun _ => fun
  | [d1, d2, d3] => { results := [.lit (.bool false)], args := [d1, d2, d3] }
  | _ => none }
def AfterOrderWrongFalsely : Prop := afterOrderRow.holds Try.pinned (OpenSpec.ofChange afterOrderWrong)

/-- 'handshakerlaw22.AfterHolds': WHATEVER THE INPUT: true; the input reads as it did. -/
def afterHoldsSpec : ChangeSpec := { name := "afterHolds", fn := fun _ => fun
  | [d1, d2, d3] => { results := [.lit (.bool true)], args := [d1, d2, d3] }
  | _ => none }
def afterHoldsRow : OpenClaim := { program := "ytihcnbhcemkncaa", sum := "430caea7c0feb20016e7931635dd93914d2c25f171cf8de00987eb9196b663f8", func := "handshaker/handshakerlaw22.AfterHolds", spec := "afterHolds", unfollowed := true, recurses := true, apart := false }
def AfterHoldsSaid : Prop := afterHoldsRow.holds Try.pinned (OpenSpec.ofChange afterHoldsSpec)

/-- ITS FALSE NEIGHBOUR: 'it returns false'. Refute it at one input. -/
def afterHoldsWrong : ChangeSpec := { name := "afterHolds", fn := fun _ => fun
  | [d1, d2, d3] => { results := [.lit (.bool false)], args := [d1, d2, d3] }
  | _ => none }
def AfterHoldsWrongFalsely : Prop := afterHoldsRow.holds Try.pinned (OpenSpec.ofChange afterHoldsWrong)

/-- 'handshakerlaw22.AfterOwn': WHATEVER THE INPUT: true; the input reads as it did. -/
def afterOwnSpec : ChangeSpec := { name := "afterOwn", fn := fun _ => fun
  | [d1, d2, d3, d4] => { results := [.lit (.bool true)], args := [d1, d2, d3, d4] }
  | _ => none }
def afterOwnRow : OpenClaim := { program := "ytihcnbhcemkncaa", sum := "430caea7c0feb20016e7931635dd93914d2c25f171cf8de00987eb9196b663f8", func := "handshaker/handshakerlaw22.AfterOwn", spec := "afterOwn", unfollowed := true, recurses := true, apart := false }
def AfterOwnSaid : Prop := afterOwnRow.holds Try.pinned (OpenSpec.ofChange afterOwnSpec)

/-- ITS FALSE NEIGHBOUR: 'it returns false'. Refute it at one input. -/
def afterOwnWrong : ChangeSpec := { name := "afterOwn", fn := fun _ => fun
  | [d1, d2, d3, d4] => { results := [.lit (.bool false)], args := [d1, d2, d3, d4] }
  | _ => none }
def AfterOwnWrongFalsely : Prop := afterOwnRow.holds Try.pinned (OpenSpec.ofChange afterOwnWrong)

/-- 'handshakerlaw22.AfterPlus': WHATEVER THE INPUT: true; the input reads as it did. -/
def afterPlusSpec : ChangeSpec := { name := "afterPlus", fn := fun _ => fun
  | [d1, d2, d3] => { results := [.lit (.bool true)], args := [d1, d2, d3] }
  | _ => none }
def afterPlusRow : OpenClaim := { program := "ytihcnbhcemkncaa", sum := "430caea7c0feb20016e7931635dd93914d2c25f171cf8de00987eb9196b663f8", func := "handshaker/handshakerlaw22.AfterPlus", spec := "afterPlus", unfollowed := true, recurses := true, apart := false }
def AfterPlusSaid : Prop := afterPlusRow.holds Try.pinned (OpenSpec.ofChange afterPlusSpec)

/-- ITS FALSE NEIGHBOUR: 'it returns false'. Refute it at one input. -/
def afterPlusWrong : ChangeSpec := { name := "afterPlus", fn := fun _ => fun
  | [d1, d2, d3] => { results := [.lit (.bool false)], args := [d1, d2, d3] }
  | _ => none }
def AfterPlusWrongFalsely : Prop := afterPlusRow.holds Try.pinned (OpenSpec.ofChange afterPlusWrong)

/-- 'handshakerlaw13.OpaqueWrites': WHATEVER THE INPUT: true; the input reads as it did. -/
def opaqueWritesSpec : ChangeSpec := { name := "opaqueWrites", fn := fun _ => fun
  | [d1, d2, d3] => { results := [.lit (.bool true)], args := [d1, d2, d3] }
  | _ => none }
def opaqueWritesRow : OpenClaim := { program := "ytihcnbhcemkncaa", sum := "430caea7c0feb20016e7931635dd93914d2c25f171cf8de00987eb9196b663f8", func := "handshaker/handshakerlaw13.OpaqueWrites", spec := "opaqueWrites", unfollowed := true, recurses := true, apart := false }
def OpaqueWritesSaid : Prop := opaqueWritesRow.holds Try.pinned (OpenSpec.ofChange opaqueWritesSpec)

/-- ITS FALSE NEIGHBOUR: 'it returns false'. Refute it at one input. -/
def opaqueWritesWrong : ChangeSpec := { name := "opaqueWrites", fn := fun _ => fun
  | [d1, d2, d3] => { results := [.lit (.bool false)], args := [d1, d2, d3] }
  | _ => none }
def OpaqueWritesWrongFalsely : Prop := opaqueWritesRow.holds Try.pinned (OpenSpec.ofChange opaqueWritesWrong)

/-- 'handshakerlaw13.OpaqueNone': WHATEVER THE INPUT: true; the input reads as it did. -/
def opaqueNoneSpec : ChangeSpec := { name := "opaqueNone", fn := fun _ => fun
  | [d1, d2] => { results := [.lit (.bool true)], args := [d1, d2] }
  | _ => none }
def opaqueNoneRow : OpenClaim := { program := "ytihcnbhcemkncaa", sum := "430caea7c0feb20016e7931635dd93914d2c25f171cf8de00987eb9196b663f8", func := "handshaker/handshakerlaw13.OpaqueNone", spec := "opaqueNone", unfollowed := true, recurses := true, apart := false }
def OpaqueNoneSaid : Prop := opaqueNoneRow.holds Try.pinned (OpenSpec.ofChange opaqueNoneSpec)

/-- ITS FALSE NEIGHBOUR: 'it returns false'. Refute it at one input. -/
def opaqueNoneWrong : ChangeSpec := { name := "opaqueNone", fn := fun _ => fun
  | [d1, d2] => { results := [.lit (.bool false)], args := [d1, d2] }
  | _ => none }
def OpaqueNoneWrongFalsely : Prop := opaqueNoneRow.holds Try.pinned (OpenSpec.ofChange opaqueNoneWrong)

/- THE SECOND FORM. 'bulk': how many values and letters a reading holds, each counted each time it is reached (what is shared counts as often as it is met; a slice's spare places count too). A statement '..UptoSaid' is the law's where the arguments, and the package variables that the reading takes, are together of bulk at most 1048576: NARROWER than '..Said'. Prove '..Said' where nothing that the law and all that it calls make is longer than what came in: it says more and counts as full. Else prove '..UptoSaid'. A law counts once. -/
mutual
def uptoBulk {H : Type} : DataW H → Nat
  | .lit (.string bytes) => bytes.length + 1
  | .lit _ => 1
  | .nil => 1
  | .ptr d => uptoBulk d + 1
  | .slice elems spare => uptoBulkAll elems + uptoBulkAll spare + 1
  | .agg parts => uptoBulkAll parts + 1
  | .iface _ d => uptoBulk d + 1
  | .map entries => uptoBulkEntries entries + 1
  | .held _ => 1
def uptoBulkAll {H : Type} : List (DataW H) → Nat
  | [] => 0
  | d :: r => uptoBulk d + uptoBulkAll r
def uptoBulkEntries {H : Type} : List (Lit × DataW H) → Nat
  | [] => 0
  | x :: r => uptoBulkEntry x + uptoBulkEntries r
def uptoBulkEntry {H : Type} : Lit × DataW H → Nat
  | (.string bytes, d) => bytes.length + uptoBulk d + 1
  | (_, d) => uptoBulk d + 1
 end
def uptoSmall : (H : Type) → List (DataW H) → Bool := fun _ ds => decide (uptoBulkAll ds ≤ 1048576)
def OpenSpec.upto (s : _root_.Go.ChangeSpec) : _root_.Go.OpenSpec := { _root_.Go.OpenSpec.ofChange s with cond := some uptoSmall }

/-- 'handshakerlaw22.AfterTells', WHERE WHAT IT READS IS OF BULK AT MOST 1048576: true; the input reads as it did. -/
def afterTellsUptoRow : OpenClaim := { program := "ytihcnbhcemkncaa", sum := "430caea7c0feb20016e7931635dd93914d2c25f171cf8de00987eb9196b663f8", func := "handshaker/handshakerlaw22.AfterTells", spec := "afterTells", unfollowed := true, recurses := true, apart := false, narrowed := true }
def AfterTellsUptoSaid : Prop := afterTellsUptoRow.holds Try.pinned (OpenSpec.upto afterTellsSpec)

/-- 'handshakerlaw22.AfterFused', WHERE WHAT IT READS IS OF BULK AT MOST 1048576: true; the input reads as it did. -/
def afterFusedUptoRow : OpenClaim := { program := "ytihcnbhcemkncaa", sum := "430caea7c0feb20016e7931635dd93914d2c25f171cf8de00987eb9196b663f8", func := "handshaker/handshakerlaw22.AfterFused", spec := "afterFused", unfollowed := true, recurses := true, apart := false, narrowed := true }
def AfterFusedUptoSaid : Prop := afterFusedUptoRow.holds Try.pinned (OpenSpec.upto afterFusedSpec)

/-- 'handshakerlaw22.AfterOrder', WHERE WHAT IT READS IS OF BULK AT MOST 1048576: true; the input reads as it did. -/
def afterOrderUptoRow : OpenClaim := { program := "ytihcnbhcemkncaa", sum := "430caea7c0feb20016e7931635dd93914d2c25f171cf8de00987eb9196b663f8", func := "handshaker/handshakerlaw22.AfterOrder", spec := "afterOrder", unfollowed := true, recurses := true, apart := false, narrowed := true }
def AfterOrderUptoSaid : Prop := afterOrderUptoRow.holds Try.pinned (OpenSpec.upto afterOrderSpec)

/-- 'handshakerlaw22.AfterHolds', WHERE WHAT IT READS IS OF BULK AT MOST 1048576: true; the input reads as it did. -/
def afterHoldsUptoRow : OpenClaim := { program := "ytihcnbhcemkncaa", sum := "430caea7c0feb20016e7931635dd93914d2c25f171cf8de00987eb9196b663f8", func := "handshaker/handshakerlaw22.AfterHolds", spec := "afterHolds", unfollowed := true, recurses := true, apart := false, narrowed := true }
def AfterHoldsUptoSaid : Prop := afterHoldsUptoRow.holds Try.pinned (OpenSpec.upto afterHoldsSpec)

/-- 'handshakerlaw22.AfterOwn', WHERE WHAT IT READS IS OF BULK AT MOST 1048576: true; the input reads as it did. -/
def afterOwnUptoRow : OpenClaim := { program := "ytihcnbhcemkncaa", sum := "430caea7c0feb20016e7931635dd93914d2c25f171cf8de00987eb9196b663f8", func := "handshaker/handshakerlaw22.AfterOwn", spec := "afterOwn", unfollowed := true, recurses := true, apart := false, narrowed := true }
def AfterOwnUptoSaid : Prop := afterOwnUptoRow.holds Try.pinned (OpenSpec.upto afterOwnSpec)

/-- 'handshakerlaw22.AfterPlus', WHERE WHAT IT READS IS OF BULK AT MOST 1048576: true; the input reads as it did. -/
def afterPlusUptoRow : OpenClaim := { program := "ytihcnbhcemkncaa", sum := "430caea7c0feb20016e7931635dd93914d2c25f171cf8de00987eb9196b663f8", func := "handshaker/handshakerlaw22.AfterPlus", spec := "afterPlus", unfollowed := true, recurses := true, apart := false, narrowed := true }
def AfterPlusUptoSaid : Prop := afterPlusUptoRow.holds Try.pinned (OpenSpec.upto afterPlusSpec)

/-- 'handshakerlaw13.OpaqueWrites', WHERE WHAT IT READS IS OF BULK AT MOST 1048576: true; the input reads as it did. -/
def opaqueWritesUptoRow : OpenClaim := { program := "ytihcnbhcemkncaa", sum := "430caea7c0feb20016e7931635dd93914d2c25f171cf8de00987eb9196b663f8", func := "handshaker/handshakerlaw13.OpaqueWrites", spec := "opaqueWrites", unfollowed := true, recurses := true, apart := false, narrowed := true }
def OpaqueWritesUptoSaid : Prop := opaqueWritesUptoRow.holds Try.pinned (OpenSpec.upto opaqueWritesSpec)

/-- 'handshakerlaw13.OpaqueNone', WHERE WHAT IT READS IS OF BULK AT MOST 1048576: true; the input reads as it did. -/
def opaqueNoneUptoRow : OpenClaim := { program := "ytihcnbhcemkncaa", sum := "430caea7c0feb20016e7931635dd93914d2c25f171cf8de00987eb9196b663f8", func := "handshaker/handshakerlaw13.OpaqueNone", spec := "opaqueNone", unfollowed := true, recurses := true, apart := false, narrowed := true }
def OpaqueNoneUptoSaid : Prop := opaqueNoneUptoRow.holds Try.pinned (OpenSpec.upto opaqueNoneSpec)

end Rows
end Go.Proofs.Ytihcnbhcemkncaa
