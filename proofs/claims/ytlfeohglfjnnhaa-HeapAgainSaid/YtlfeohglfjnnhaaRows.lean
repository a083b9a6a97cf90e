/-
  No cell of these rows narrows 'for every input' (looked for: loops, veiled, ifaces, maps, wideKeys, modest, calm, conditions, laid).
  DERIVED. THE GIVEN ROWS OF THIS SEAT. 12 by the template 'for every input the law returns true; each argument reads behind the call as it read before'; 0 by the template 'total and deterministic' (their statements: YtlfeohglfjnnhaaTotals.lean).
  GIVEN WITH THE SEED: the statements are not yours to turn. If you find one false, say at which input.
  Laid BY PROGRAM, IN A SANDBOX (cutbox-rows.mjs): the forced cells as the released guide's own fill.sh prints them over the translation 269c163823d750c7… (all of the seat's roots in one cut). By AI agents, Wed Nov 11 2026. No macro, syntax, notation, axiom, sorry.
-/
import Derived.Test.YtlfeohglfjnnhaaChecked
import GoSem.Claim
import GoSem.ClaimJoined
import GoSem.ClaimMapViews
import Derived.JoinedTies
import Derived.KernelRfl
namespace Go.Proofs.Ytlfeohglfjnnhaa
/- THE CELL 'sum', in the pinned program and in every row, IS THE sha256 OF THE DUMP (.gsa) THAT YtlfeohglfjnnhaaProg.lean LOADS. Nothing in Lean hashes anything: it is a label: what it is worth is what the hold of that sum in a sandbox is worth. -/
noncomputable def Try.pinned : Pinned := { name := "ytlfeohglfjnnhaa", sum := "269c163823d750c74df8905f35b3372e948b7fa684cb55dac60066f0b4a5d4e2", checked := Try.checked }
namespace Rows
def none {H : Type} : Left H := { results := [], args := [] }

/-- 'handshakerlaw01.SpanTells': WHATEVER THE INPUT: true; the input reads as it did. -/
def spanTellsSpec : ChangeSpec := { name := "spanTells", fn := fun _ => fun
  | [d1, d2] => { results := [.lit (.bool true)], args := [d1, d2] }
  | _ => none }
def spanTellsRow : OpenClaim := { program := "ytlfeohglfjnnhaa", sum := "269c163823d750c74df8905f35b3372e948b7fa684cb55dac60066f0b4a5d4e2", func := "handshaker/handshakerlaw01.SpanTells", spec := "spanTells", apart := false }
def SpanTellsSaid : Prop := spanTellsRow.holds Try.pinned (OpenSpec.ofChange spanTellsSpec)

/-- ITS FALSE NEIGHBOUR: 'it returns false'. Refute it at one input. -/
def spanTellsWrong : ChangeSpec := { name := "spanTells", fn := fun _ => fun
  | [d1, d2] => { results := [.lit (.bool false)], args := [d1, d2] }
  | _ => none }
def SpanTellsWrongFalsely : Prop := spanTellsRow.holds Try.pinned (OpenSpec.ofChange spanTellsWrong)

/-- 'handshakerlaw01.SpanLaws': WHATEVER THE INPUT: true; the input reads as it did. -/
def spanLawsSpec : ChangeSpec := { name := "spanLaws", fn := fun _ => fun
  | [d1, d2, d3] => { results := [.lit (.bool true)], args := [d1, d2, d3] }
  | _ => none }
def spanLawsRow : OpenClaim := { program := "ytlfeohglfjnnhaa", sum := "269c163823d750c74df8905f35b3372e948b7fa684cb55dac60066f0b4a5d4e2", func := "handshaker/handshakerlaw01.SpanLaws", spec := "spanLaws", apart := false }
def SpanLawsSaid : Prop := spanLawsRow.holds Try.pinned (OpenSpec.ofChange spanLawsSpec)

/-- ITS FALSE NEIGHBOUR: 'it returns false'. Refute it at one input. -/
def spanLawsWrong : ChangeSpec := { name := "spanLaws", fn := fun _ => fun
  | [d1, d2, d3] => { results := [.lit (.bool false)], args := [d1, d2, d3] }
  | _ => none }
def SpanLawsWrongFalsely : Prop := spanLawsRow.holds Try.pinned (OpenSpec.ofChange spanLawsWrong)

/-- 'handshakerlaw01.SpanRound': WHATEVER THE INPUT: true; the input reads as it did. -/
def spanRoundSpec : ChangeSpec := { name := "spanRound", fn := fun _ => fun
  | [d1, d2] => { results := [.lit (.bool true)], args := [d1, d2] }
  | _ => none }
def spanRoundRow : OpenClaim := { program := "ytlfeohglfjnnhaa", sum := "269c163823d750c74df8905f35b3372e948b7fa684cb55dac60066f0b4a5d4e2", func := "handshaker/handshakerlaw01.SpanRound", spec := "spanRound", apart := false }
def SpanRoundSaid : Prop := spanRoundRow.holds Try.pinned (OpenSpec.ofChange spanRoundSpec)

/-- ITS FALSE NEIGHBOUR: 'it returns false'. Refute it at one input. -/
def spanRoundWrong : ChangeSpec := { name := "spanRound", fn := fun _ => fun
  | [d1, d2] => { results := [.lit (.bool false)], args := [d1, d2] }
  | _ => none }
def SpanRoundWrongFalsely : Prop := spanRoundRow.holds Try.pinned (OpenSpec.ofChange spanRoundWrong)

/-- 'handshakerlaw01.SpanUnits': WHATEVER THE INPUT: true; the input reads as it did. -/
def spanUnitsSpec : ChangeSpec := { name := "spanUnits", fn := fun _ => fun
  | [d1, d2] => { results := [.lit (.bool true)], args := [d1, d2] }
  | _ => none }
def spanUnitsRow : OpenClaim := { program := "ytlfeohglfjnnhaa", sum := "269c163823d750c74df8905f35b3372e948b7fa684cb55dac60066f0b4a5d4e2", func := "handshaker/handshakerlaw01.SpanUnits", spec := "spanUnits", apart := false }
def SpanUnitsSaid : Prop := spanUnitsRow.holds Try.pinned (OpenSpec.ofChange spanUnitsSpec)

/-- ITS FALSE NEIGHBOUR: 'it returns false'. Refute it at one input. -/
def spanUnitsWrong : ChangeSpec := { name := "spanUnits", fn := fun _ => fun
  | [d1, d2] => { results := [.lit (.bool false)], args := [d1, d2] }
  | _ => none }
def SpanUnitsWrongFalsely : Prop := spanUnitsRow.holds Try.pinned (OpenSpec.ofChange spanUnitsWrong)

/-- 'handshakerlaw01.SpanOrder': WHATEVER THE INPUT: true; the input reads as it did. -/
def spanOrderSpec : ChangeSpec := { name := "spanOrder", fn := fun _ => fun
  | [d1, d2, d3] => { results := [.lit (.bool true)], args := [d1, d2, d3] }
  | _ => none }
def spanOrderRow : OpenClaim := { program := "ytlfeohglfjnnhaa", sum := "269c163823d750c74df8905f35b3372e948b7fa684cb55dac60066f0b4a5d4e2", func := "handshaker/handshakerlaw01.SpanOrder", spec := "spanOrder", apart := false }
def SpanOrderSaid : Prop := spanOrderRow.holds Try.pinned (OpenSpec.ofChange spanOrderSpec)

/-- ITS FALSE NEIGHBOUR: 'it returns false'. Refute it at one input. -/
def spanOrderWrong : ChangeSpec := { name := "spanOrder", fn := fun _ => fun
  | [d1, d2, d3] => { results := [.lit (.bool false)], args := [d1, d2, d3] }
  | _ => none }
def SpanOrderWrongFalsely : Prop := spanOrderRow.holds Try.pinned (OpenSpec.ofChange spanOrderWrong)

/-- 'handshakerlaw01.SpanTimes': WHATEVER THE INPUT: true; the input reads as it did. -/
def spanTimesSpec : ChangeSpec := { name := "spanTimes", fn := fun _ => fun
  | [d1, d2] => { results := [.lit (.bool true)], args := [d1, d2] }
  | _ => none }
def spanTimesRow : OpenClaim := { program := "ytlfeohglfjnnhaa", sum := "269c163823d750c74df8905f35b3372e948b7fa684cb55dac60066f0b4a5d4e2", func := "handshaker/handshakerlaw01.SpanTimes", spec := "spanTimes", apart := false }
def SpanTimesSaid : Prop := spanTimesRow.holds Try.pinned (OpenSpec.ofChange spanTimesSpec)

/-- ITS FALSE NEIGHBOUR: 'it returns false'. Refute it at one input. -/
def spanTimesWrong : ChangeSpec := { name := "spanTimes", fn := fun _ => fun
  | [d1, d2] => { results := [.lit (.bool false)], args := [d1, d2] }
  | _ => none }
def SpanTimesWrongFalsely : Prop := spanTimesRow.holds Try.pinned (OpenSpec.ofChange spanTimesWrong)

/-- 'handshakerlaw02.HeapTells': WHATEVER THE INPUT: true; the input reads as it did. -/
def heapTellsSpec : ChangeSpec := { name := "heapTells", fn := fun _ => fun
  | [d1, d2, d3, d4] => { results := [.lit (.bool true)], args := [d1, d2, d3, d4] }
  | _ => none }
def heapTellsRow : OpenClaim := { program := "ytlfeohglfjnnhaa", sum := "269c163823d750c74df8905f35b3372e948b7fa684cb55dac60066f0b4a5d4e2", func := "handshaker/handshakerlaw02.HeapTells", spec := "heapTells", unfollowed := true, recurses := true, apart := false }
def HeapTellsSaid : Prop := heapTellsRow.holds Try.pinned (OpenSpec.ofChange heapTellsSpec)

/-- ITS FALSE NEIGHBOUR: 'it returns false'. Refute it at one input. -/
def heapTellsWrong : ChangeSpec := { name := "heapTells", fn := fun _ => fun
  | [d1, d2, d3, d4] => { results := [.lit (.bool false)], args := [d1, d2, d3, d4] }
  | _ => none }
def HeapTellsWrongFalsely : Prop := heapTellsRow.holds Try.pinned (OpenSpec.ofChange heapTellsWrong)

/-- 'handshakerlaw02.HeapFills': WHATEVER THE INPUT: true; the input reads as it did. -/
def heapFillsSpec : ChangeSpec := { name := "heapFills", fn := fun _ => fun
  | [d1, d2] => { results := [.lit (.bool true)], args := [d1, d2] }
  | _ => none }
def heapFillsRow : OpenClaim := { program := "ytlfeohglfjnnhaa", sum := "269c163823d750c74df8905f35b3372e948b7fa684cb55dac60066f0b4a5d4e2", func := "handshaker/handshakerlaw02.HeapFills", spec := "heapFills", unfollowed := true, recurses := true, apart := false }
def HeapFillsSaid : Prop := heapFillsRow.holds Try.pinned (OpenSpec.ofChange heapFillsSpec)

/-- ITS FALSE NEIGHBOUR: 'it returns false'. Refute it at one input. -/
def heapFillsWrong : ChangeSpec := { name := "heapFills", fn := fun _ => fun
  | [d1, d2] => { results := [.lit (.bool false)], args := [d1, d2] }
  | _ => none }
def HeapFillsWrongFalsely : Prop := heapFillsRow.holds Try.pinned (OpenSpec.ofChange heapFillsWrong)

/-- 'handshakerlaw02.HeapAgain': WHATEVER THE INPUT: true; the input reads as it did. -/
def heapAgainSpec : ChangeSpec := { name := "heapAgain", fn := fun _ => fun
  | [d1, d2, d3] => { results := [.lit (.bool true)], args := [d1, d2, d3] }
  | _ => none }
def heapAgainRow : OpenClaim := { program := "ytlfeohglfjnnhaa", sum := "269c163823d750c74df8905f35b3372e948b7fa684cb55dac60066f0b4a5d4e2", func := "handshaker/handshakerlaw02.HeapAgain", spec := "heapAgain", unfollowed := true, recurses := true, apart := false }
def HeapAgainSaid : Prop := heapAgainRow.holds Try.pinned (OpenSpec.ofChange heapAgainSpec)

/-- ITS FALSE NEIGHBOUR: 'it returns false'. Refute it at one input. -/
def heapAgainWrong : ChangeSpec := { name := "heapAgain", fn := fun _ => fun
  | [d1, d2, d3] => { results := [.lit (.bool false)], args := [d1, d2, d3] }
  | _ => none }
def HeapAgainWrongFalsely : Prop := heapAgainRow.holds Try.pinned (OpenSpec.ofChange heapAgainWrong)

/-- 'handshakerlaw02.HeapPuts': WHATEVER THE INPUT: true; the input reads as it did. -/
def heapPutsSpec : ChangeSpec := { name := "heapPuts", fn := fun _ => fun
  | [d1, d2] => { results := [.lit (.bool true)], args := [d1, d2] }
  | _ => none }
def heapPutsRow : OpenClaim := { program := "ytlfeohglfjnnhaa", sum := "269c163823d750c74df8905f35b3372e948b7fa684cb55dac60066f0b4a5d4e2", func := "handshaker/handshakerlaw02.HeapPuts", spec := "heapPuts", unfollowed := true, recurses := true, apart := false }
def HeapPutsSaid : Prop := heapPutsRow.holds Try.pinned (OpenSpec.ofChange heapPutsSpec)

/-- ITS FALSE NEIGHBOUR: 'it returns false'. Refute it at one input. -/
def heapPutsWrong : ChangeSpec := { name := "heapPuts", fn := fun _ => fun
  | [d1, d2] => { results := [.lit (.bool false)], args := [d1, d2] }
  | _ => none }
def HeapPutsWrongFalsely : Prop := heapPutsRow.holds Try.pinned (OpenSpec.ofChange heapPutsWrong)

/-- 'handshakerlaw02.HeapLive': WHATEVER THE INPUT: true; the input reads as it did. -/
def heapLiveSpec : ChangeSpec := { name := "heapLive", fn := fun _ => fun
  | [d1, d2] => { results := [.lit (.bool true)], args := [d1, d2] }
  | _ => none }
def heapLiveRow : OpenClaim := { program := "ytlfeohglfjnnhaa", sum := "269c163823d750c74df8905f35b3372e948b7fa684cb55dac60066f0b4a5d4e2", func := "handshaker/handshakerlaw02.HeapLive", spec := "heapLive", unfollowed := true, recurses := true, apart := false }
def HeapLiveSaid : Prop := heapLiveRow.holds Try.pinned (OpenSpec.ofChange heapLiveSpec)

/-- ITS FALSE NEIGHBOUR: 'it returns false'. Refute it at one input. -/
def heapLiveWrong : ChangeSpec := { name := "heapLive", fn := fun _ => fun
  | [d1, d2] => { results := [.lit (.bool false)], args := [d1, d2] }
  | _ => none }
def HeapLiveWrongFalsely : Prop := heapLiveRow.holds Try.pinned (OpenSpec.ofChange heapLiveWrong)

/-- 'handshakerlaw02.HeapParts': WHATEVER THE INPUT: true; the input reads as it did. -/
def heapPartsSpec : ChangeSpec := { name := "heapParts", fn := fun _ => fun
  | [d1, d2, d3] => { results := [.lit (.bool true)], args := [d1, d2, d3] }
  | _ => none }
def heapPartsRow : OpenClaim := { program := "ytlfeohglfjnnhaa", sum := "269c163823d750c74df8905f35b3372e948b7fa684cb55dac60066f0b4a5d4e2", func := "handshaker/handshakerlaw02.HeapParts", spec := "heapParts", unfollowed := true, recurses := true, apart := false }
def HeapPartsSaid : Prop := heapPartsRow.holds Try.pinned (OpenSpec.ofChange heapPartsSpec)

/-- ITS FALSE NEIGHBOUR: 'it returns false'. Refute it at one input. -/
def heapPartsWrong : ChangeSpec := { name := "heapParts", fn := fun _ => fun
  | [d1, d2, d3] => { results := [.lit (.bool false)], args := [d1, d2, d3] }
  | _ => none }
def HeapPartsWrongFalsely : Prop := heapPartsRow.holds Try.pinned (OpenSpec.ofChange heapPartsWrong)

/- THE SECOND FORM. 'bulk': how many values and letters a reading holds, each counted each time it is reached (what is shared counts as often as it is met; a slice's spare places count too). A statement '..UptoSaid' is the law's where the arguments, and the package variables that the reading takes, are together of bulk at most 1048576: NARROWER than '..Said'. Prove '..Said' where nothing that the law and all that it calls make is longer than what came in: it says more and counts as full. Else prove '..UptoSaid'. A law counts once. -/
mutual
def uptoBulk {H : Type} : DataW H → Nat
  | .lit (.string bytes) => bytes.length + 1
  | .lit _ => 1
  | .nil => 1
  | .ptr d => uptoBulk d + 1
  | .slice elems spare => uptoBulkAll elems + uptoBulkAll spare + 1
  | .agg parts => uptoBulkAll parts + 1
  | .iface _ d => uptoBulk d + 1
  | .map entries => uptoBulkEntries entries + 1
  | .held _ => 1
def uptoBulkAll {H : Type} : List (DataW H) → Nat
  | [] => 0
  | d :: r => uptoBulk d + uptoBulkAll r
def uptoBulkEntries {H : Type} : List (Lit × DataW H) → Nat
  | [] => 0
  | x :: r => uptoBulkEntry x + uptoBulkEntries r
def uptoBulkEntry {H : Type} : Lit × DataW H → Nat
  | (.string bytes, d) => bytes.length + uptoBulk d + 1
  | (_, d) => uptoBulk d + 1
 end
def uptoSmall : (H : Type) → List (DataW H) → Bool := fun _ ds => decide (uptoBulkAll ds ≤ 1048576)
def OpenSpec.upto (s : _root_.Go.ChangeSpec) : _root_.Go.OpenSpec := { _root_.Go.OpenSpec.ofChange s with cond := some uptoSmall }

/-- 'handshakerlaw01.SpanTells', WHERE WHAT IT READS IS OF BULK AT MOST 1048576: true; the input reads as it did. -/
def spanTellsUptoRow : OpenClaim := { program := "ytlfeohglfjnnhaa", sum := "269c163823d750c74df8905f35b3372e948b7fa684cb55dac60066f0b4a5d4e2", func := "handshaker/handshakerlaw01.SpanTells", spec := "spanTells", apart := false, narrowed := true }
def SpanTellsUptoSaid : Prop := spanTellsUptoRow.holds Try.pinned (OpenSpec.upto spanTellsSpec)

/-- 'handshakerlaw01.SpanLaws', WHERE WHAT IT READS IS OF BULK AT MOST 1048576: true; the input reads as it did. -/
def spanLawsUptoRow : OpenClaim := { program := "ytlfeohglfjnnhaa", sum := "269c163823d750c74df8905f35b3372e948b7fa684cb55dac60066f0b4a5d4e2", func := "handshaker/handshakerlaw01.SpanLaws", spec := "spanLaws", apart := false, narrowed := true }
def SpanLawsUptoSaid : Prop := spanLawsUptoRow.holds Try.pinned (OpenSpec.upto spanLawsSpec)

/-- 'handshakerlaw01.SpanRound', WHERE WHAT IT READS IS OF BULK AT MOST 1048576: true; the input reads as it did. -/
def spanRoundUptoRow : OpenClaim := { program := "ytlfeohglfjnnhaa", sum := "269c163823d750c74df8905f35b3372e948b7fa684cb55dac60066f0b4a5d4e2", func := "handshaker/handshakerlaw01.SpanRound", spec := "spanRound", apart := false, narrowed := true }
def SpanRoundUptoSaid : Prop := spanRoundUptoRow.holds Try.pinned (OpenSpec.upto spanRoundSpec)

/-- 'handshakerlaw01.SpanUnits', WHERE WHAT IT READS IS OF BULK AT MOST 1048576: true; the input reads as it did. -/
def spanUnitsUptoRow : OpenClaim := { program := "ytlfeohglfjnnhaa", sum := "269c163823d750c74df8905f35b3372e948b7fa684cb55dac60066f0b4a5d4e2", func := "handshaker/handshakerlaw01.SpanUnits", spec := "spanUnits", apart := false, narrowed := true }
def SpanUnitsUptoSaid : Prop := spanUnitsUptoRow.holds Try.pinned (OpenSpec.upto spanUnitsSpec)

/-- 'handshakerlaw01.SpanOrder', WHERE WHAT IT READS IS OF BULK AT MOST 1048576: true; the input reads as it did. -/
def spanOrderUptoRow : OpenClaim := { program := "ytlfeohglfjnnhaa", sum := "269c163823d750c74df8905f35b3372e948b7fa684cb55dac60066f0b4a5d4e2", func := "handshaker/handshakerlaw01.SpanOrder", spec := "spanOrder", apart := false, narrowed := true }
def SpanOrderUptoSaid : Prop := spanOrderUptoRow.holds Try.pinned (OpenSpec.upto spanOrderSpec)

/-- 'handshakerlaw01.SpanTimes', WHERE WHAT IT READS IS OF BULK AT MOST 1048576: true; the input reads as it did. -/
def spanTimesUptoRow : OpenClaim := { program := "ytlfeohglfjnnhaa", sum := "269c163823d750c74df8905f35b3372e948b7fa684cb55dac60066f0b4a5d4e2", func := "handshaker/handshakerlaw01.SpanTimes", spec := "spanTimes", apart := false, narrowed := true }
def SpanTimesUptoSaid : Prop := spanTimesUptoRow.holds Try.pinned (OpenSpec.upto spanTimesSpec)

/-- 'handshakerlaw02.HeapTells', WHERE WHAT IT READS IS OF BULK AT MOST 1048576: true; the input reads as it did. -/
def heapTellsUptoRow : OpenClaim := { program := "ytlfeohglfjnnhaa", sum := "269c163823d750c74df8905f35b3372e948b7fa684cb55dac60066f0b4a5d4e2", func := "handshaker/handshakerlaw02.HeapTells", spec := "heapTells", unfollowed := true, recurses := true, apart := false, narrowed := true }
def HeapTellsUptoSaid : Prop := heapTellsUptoRow.holds Try.pinned (OpenSpec.upto heapTellsSpec)

/-- 'handshakerlaw02.HeapFills', WHERE WHAT IT READS IS OF BULK AT MOST 1048576: true; the input reads as it did. -/
def heapFillsUptoRow : OpenClaim := { program := "ytlfeohglfjnnhaa", sum := "269c163823d750c74df8905f35b3372e948b7fa684cb55dac60066f0b4a5d4e2", func := "handshaker/handshakerlaw02.HeapFills", spec := "heapFills", unfollowed := true, recurses := true, apart := false, narrowed := true }
def HeapFillsUptoSaid : Prop := heapFillsUptoRow.holds Try.pinned (OpenSpec.upto heapFillsSpec)

/-- 'handshakerlaw02.HeapAgain', WHERE WHAT IT READS IS OF BULK AT MOST 1048576: true; the input reads as it did. -/
def heapAgainUptoRow : OpenClaim := { program := "ytlfeohglfjnnhaa", sum := "269c163823d750c74df8905f35b3372e948b7fa684cb55dac60066f0b4a5d4e2", func := "handshaker/handshakerlaw02.HeapAgain", spec := "heapAgain", unfollowed := true, recurses := true, apart := false, narrowed := true }
def HeapAgainUptoSaid : Prop := heapAgainUptoRow.holds Try.pinned (OpenSpec.upto heapAgainSpec)

/-- 'handshakerlaw02.HeapPuts', WHERE WHAT IT READS IS OF BULK AT MOST 1048576: true; the input reads as it did. -/
def heapPutsUptoRow : OpenClaim := { program := "ytlfeohglfjnnhaa", sum := "269c163823d750c74df8905f35b3372e948b7fa684cb55dac60066f0b4a5d4e2", func := "handshaker/handshakerlaw02.HeapPuts", spec := "heapPuts", unfollowed := true, recurses := true, apart := false, narrowed := true }
def HeapPutsUptoSaid : Prop := heapPutsUptoRow.holds Try.pinned (OpenSpec.upto heapPutsSpec)

/-- 'handshakerlaw02.HeapLive', WHERE WHAT IT READS IS OF BULK AT MOST 1048576: true; the input reads as it did. -/
def heapLiveUptoRow : OpenClaim := { program := "ytlfeohglfjnnhaa", sum := "269c163823d750c74df8905f35b3372e948b7fa684cb55dac60066f0b4a5d4e2", func := "handshaker/handshakerlaw02.HeapLive", spec := "heapLive", unfollowed := true, recurses := true, apart := false, narrowed := true }
def HeapLiveUptoSaid : Prop := heapLiveUptoRow.holds Try.pinned (OpenSpec.upto heapLiveSpec)

/-- 'handshakerlaw02.HeapParts', WHERE WHAT IT READS IS OF BULK AT MOST 1048576: true; the input reads as it did. -/
def heapPartsUptoRow : OpenClaim := { program := "ytlfeohglfjnnhaa", sum := "269c163823d750c74df8905f35b3372e948b7fa684cb55dac60066f0b4a5d4e2", func := "handshaker/handshakerlaw02.HeapParts", spec := "heapParts", unfollowed := true, recurses := true, apart := false, narrowed := true }
def HeapPartsUptoSaid : Prop := heapPartsUptoRow.holds Try.pinned (OpenSpec.upto heapPartsSpec)

end Rows
end Go.Proofs.Ytlfeohglfjnnhaa
