/-
  No cell of these rows narrows 'for every input' (looked for: loops, veiled, ifaces, maps, wideKeys, modest, calm, conditions, laid).
  DERIVED. THE GIVEN ROWS OF THIS SEAT. 8 by the template 'for every input the law returns true; each argument reads behind the call as it read before'; 0 by the template 'total and deterministic' (their statements: YteckmgmcfngddaaGreatTotals.lean).
  GIVEN WITH THE SEED: the statements are not yours to turn. If you find one false, say at which input.
  Laid BY PROGRAM, IN A SANDBOX (cutbox-rows.mjs): the forced cells as the released guide's own fill.sh prints them over the translation e0a33c223321ec12… (all of the seat's roots in one cut). By AI agents, Wed Nov 11 2026. No macro, syntax, notation, axiom, sorry.
-/
import Derived.Test.YteckmgmcfngddaaGreatChecked
import GoSem.Claim
import GoSem.ClaimJoined
import GoSem.ClaimMapViews
import Derived.JoinedTies
import Derived.KernelRfl
namespace Go.Proofs.YteckmgmcfngddaaGreat
/- THE CELL 'sum', in the pinned program and in every row, IS THE sha256 OF THE DUMP (.gsa) THAT YteckmgmcfngddaaGreatProg.lean LOADS. Nothing in Lean hashes anything: it is a label: what it is worth is what the hold of that sum in a sandbox is worth. -/
noncomputable def Tryz.pinned : Pinned := { name := "yteckmgmcfngddaagreat", sum := "e0a33c223321ec128589bf0ead9a47ecc464cbe699ac45c6292f1d04e59c6e0f", checked := Tryz.checked }
namespace Rows
def none {H : Type} : Left H := { results := [], args := [] }

/-- 'leatlaw11.ProduceOnly': WHATEVER THE INPUT: true; the input reads as it did. -/
def produceOnlySpec : ChangeSpec := { name := "produceOnly", fn := fun _ => fun
  | [d1, d2] => { results := [.lit (.bool true)], args := [d1, d2] }
  | _ => none }
def produceOnlyRow : OpenClaim := { program := "yteckmgmcfngddaagreat", sum := "e0a33c223321ec128589bf0ead9a47ecc464cbe699ac45c6292f1d04e59c6e0f", func := "leat/leatlaw11.ProduceOnly", spec := "produceOnly", unfollowed := true, recurses := true, apart := false }
def ProduceOnlySaid : Prop := produceOnlyRow.holds Tryz.pinned (OpenSpec.ofChange produceOnlySpec)

/-- ITS FALSE NEIGHBOUR: 'it returns false'. Refute it at one input. -/
def produceOnlyWrong : ChangeSpec := { name := "produceOnly", fn := fun _ => fun
  | [d1, d2] => { results := [.lit (.bool false)], args := [d1, d2] }
  | _ => none }
def ProduceOnlyWrongFalsely : Prop := produceOnlyRow.holds Tryz.pinned (OpenSpec.ofChange produceOnlyWrong)

/-- 'leatlaw13.OffsetsOnly': WHATEVER THE INPUT: true; the input reads as it did. -/
def offsetsOnlySpec : ChangeSpec := { name := "offsetsOnly", fn := fun _ => fun
  | [d1, d2] => { results := [.lit (.bool true)], args := [d1, d2] }
  | _ => none }
def offsetsOnlyRow : OpenClaim := { program := "yteckmgmcfngddaagreat", sum := "e0a33c223321ec128589bf0ead9a47ecc464cbe699ac45c6292f1d04e59c6e0f", func := "leat/leatlaw13.OffsetsOnly", spec := "offsetsOnly", unfollowed := true, recurses := true, apart := false }
def OffsetsOnlySaid : Prop := offsetsOnlyRow.holds Tryz.pinned (OpenSpec.ofChange offsetsOnlySpec)

/-- ITS FALSE NEIGHBOUR: 'it returns false'. Refute it at one input. -/
def offsetsOnlyWrong : ChangeSpec := { name := "offsetsOnly", fn := fun _ => fun
  | [d1, d2] => { results := [.lit (.bool false)], args := [d1, d2] }
  | _ => none }
def OffsetsOnlyWrongFalsely : Prop := offsetsOnlyRow.holds Tryz.pinned (OpenSpec.ofChange offsetsOnlyWrong)

/-- 'leatlaw12.FetchOnly': WHATEVER THE INPUT: true; the input reads as it did. -/
def fetchOnlySpec : ChangeSpec := { name := "fetchOnly", fn := fun _ => fun
  | [d1, d2] => { results := [.lit (.bool true)], args := [d1, d2] }
  | _ => none }
def fetchOnlyRow : OpenClaim := { program := "yteckmgmcfngddaagreat", sum := "e0a33c223321ec128589bf0ead9a47ecc464cbe699ac45c6292f1d04e59c6e0f", func := "leat/leatlaw12.FetchOnly", spec := "fetchOnly", unfollowed := true, recurses := true, apart := false }
def FetchOnlySaid : Prop := fetchOnlyRow.holds Tryz.pinned (OpenSpec.ofChange fetchOnlySpec)

/-- ITS FALSE NEIGHBOUR: 'it returns false'. Refute it at one input. -/
def fetchOnlyWrong : ChangeSpec := { name := "fetchOnly", fn := fun _ => fun
  | [d1, d2] => { results := [.lit (.bool false)], args := [d1, d2] }
  | _ => none }
def FetchOnlyWrongFalsely : Prop := fetchOnlyRow.holds Tryz.pinned (OpenSpec.ofChange fetchOnlyWrong)

/-- 'leatlaw16.CallPuts': WHATEVER THE INPUT: true; the input reads as it did. -/
def callPutsSpec : ChangeSpec := { name := "callPuts", fn := fun _ => fun
  | [d] => { results := [.lit (.bool true)], args := [d] }
  | _ => none }
def callPutsRow : OpenClaim := { program := "yteckmgmcfngddaagreat", sum := "e0a33c223321ec128589bf0ead9a47ecc464cbe699ac45c6292f1d04e59c6e0f", func := "leat/leatlaw16.CallPuts", spec := "callPuts", unfollowed := true, recurses := true, apart := false }
def CallPutsSaid : Prop := callPutsRow.holds Tryz.pinned (OpenSpec.ofChange callPutsSpec)

/-- ITS FALSE NEIGHBOUR: 'it returns false'. Refute it at one input. -/
def callPutsWrong : ChangeSpec := { name := "callPuts", fn := fun _ => fun
  | [d] => { results := [.lit (.bool false)], args := [d] }
  | _ => none }
def CallPutsWrongFalsely : Prop := callPutsRow.holds Tryz.pinned (OpenSpec.ofChange callPutsWrong)

/-- 'leatlaw16.CallReplies': WHATEVER THE INPUT: true; the input reads as it did. -/
def callRepliesSpec : ChangeSpec := { name := "callReplies", fn := fun _ => fun
  | [d] => { results := [.lit (.bool true)], args := [d] }
  | _ => none }
def callRepliesRow : OpenClaim := { program := "yteckmgmcfngddaagreat", sum := "e0a33c223321ec128589bf0ead9a47ecc464cbe699ac45c6292f1d04e59c6e0f", func := "leat/leatlaw16.CallReplies", spec := "callReplies", unfollowed := true, recurses := true, apart := false }
def CallRepliesSaid : Prop := callRepliesRow.holds Tryz.pinned (OpenSpec.ofChange callRepliesSpec)

/-- ITS FALSE NEIGHBOUR: 'it returns false'. Refute it at one input. -/
def callRepliesWrong : ChangeSpec := { name := "callReplies", fn := fun _ => fun
  | [d] => { results := [.lit (.bool false)], args := [d] }
  | _ => none }
def CallRepliesWrongFalsely : Prop := callRepliesRow.holds Tryz.pinned (OpenSpec.ofChange callRepliesWrong)

/-- 'leatlaw16.CallGets': WHATEVER THE INPUT: true; the input reads as it did. -/
def callGetsSpec : ChangeSpec := { name := "callGets", fn := fun _ => fun
  | [d1, d2, d3] => { results := [.lit (.bool true)], args := [d1, d2, d3] }
  | _ => none }
def callGetsRow : OpenClaim := { program := "yteckmgmcfngddaagreat", sum := "e0a33c223321ec128589bf0ead9a47ecc464cbe699ac45c6292f1d04e59c6e0f", func := "leat/leatlaw16.CallGets", spec := "callGets", unfollowed := true, recurses := true, apart := false }
def CallGetsSaid : Prop := callGetsRow.holds Tryz.pinned (OpenSpec.ofChange callGetsSpec)

/-- ITS FALSE NEIGHBOUR: 'it returns false'. Refute it at one input. -/
def callGetsWrong : ChangeSpec := { name := "callGets", fn := fun _ => fun
  | [d1, d2, d3] => { results := [.lit (.bool false)], args := [d1, d2, d3] }
  | _ => none }
def CallGetsWrongFalsely : Prop := callGetsRow.holds Tryz.pinned (OpenSpec.ofChange callGetsWrong)

/-- 'leatlaw16.CallBack': WHATEVER THE INPUT: true; the input reads as it did. -/
def callBackSpec : ChangeSpec := { name := "callBack", fn := fun _ => fun
  | [d1, d2] => { results := [.lit (.bool true)], args := [d1, d2] }
  | _ => none }
def callBackRow : OpenClaim := { program := "yteckmgmcfngddaagreat", sum := "e0a33c223321ec128589bf0ead9a47ecc464cbe699ac45c6292f1d04e59c6e0f", func := "leat/leatlaw16.CallBack", spec := "callBack", unfollowed := true, recurses := true, apart := false }
def CallBackSaid : Prop := callBackRow.holds Tryz.pinned (OpenSpec.ofChange callBackSpec)

/-- ITS FALSE NEIGHBOUR: 'it returns false'. Refute it at one input. -/
def callBackWrong : ChangeSpec := { name := "callBack", fn := fun _ => fun
  | [d1, d2] => { results := [.lit (.bool false)], args := [d1, d2] }
  | _ => none }
def CallBackWrongFalsely : Prop := callBackRow.holds Tryz.pinned (OpenSpec.ofChange callBackWrong)

/-- 'leatlaw16.CallOnly': WHATEVER THE INPUT: true; the input reads as it did. -/
def callOnlySpec : ChangeSpec := { name := "callOnly", fn := fun _ => fun
  | [d] => { results := [.lit (.bool true)], args := [d] }
  | _ => none }
def callOnlyRow : OpenClaim := { program := "yteckmgmcfngddaagreat", sum := "e0a33c223321ec128589bf0ead9a47ecc464cbe699ac45c6292f1d04e59c6e0f", func := "leat/leatlaw16.CallOnly", spec := "callOnly", unfollowed := true, recurses := true, apart := false }
def CallOnlySaid : Prop := callOnlyRow.holds Tryz.pinned (OpenSpec.ofChange callOnlySpec)

/-- ITS FALSE NEIGHBOUR: 'it returns false'. Refute it at one input. -/
def callOnlyWrong : ChangeSpec := { name := "callOnly", fn := fun _ => fun
  | [d] => { results := [.lit (.bool false)], args := [d] }
  | _ => none }
def CallOnlyWrongFalsely : Prop := callOnlyRow.holds Tryz.pinned (OpenSpec.ofChange callOnlyWrong)

/- THE SECOND FORM. 'bulk': how many values and letters a reading holds, each counted each time it is reached (what is shared counts as often as it is met; a slice's spare places count too). A statement '..UptoSaid' is the law's where the arguments, and the package variables that the reading takes, are together of bulk at most 1048576: NARROWER than '..Said'. Prove '..Said' where nothing that the law and all that it calls make is longer than what came in: it says more and counts as full. Else prove '..UptoSaid'. A law counts once. -/
mutual
def uptoBulk {H : Type} : DataW H → Nat
  | .lit (.string bytes) => bytes.length + 1
  | .lit _ => 1
  | .nil => 1
  | .ptr d => uptoBulk d + 1
  | .slice elems spare => uptoBulkAll elems + uptoBulkAll spare + 1
  | .agg parts => uptoBulkAll parts + 1
  | .iface _ d => uptoBulk d + 1
  | .map entries => uptoBulkEntries entries + 1
  | .held _ => 1
def uptoBulkAll {H : Type} : List (DataW H) → Nat
  | [] => 0
  | d :: r => uptoBulk d + uptoBulkAll r
def uptoBulkEntries {H : Type} : List (Lit × DataW H) → Nat
  | [] => 0
  | x :: r => uptoBulkEntry x + uptoBulkEntries r
def uptoBulkEntry {H : Type} : Lit × DataW H → Nat
  | (.string bytes, d) => bytes.length + uptoBulk d + 1
  | (_, d) => uptoBulk d + 1
 end
def uptoSmall : (H : Type) → List (DataW H) → Bool := fun _ ds => decide (uptoBulkAll ds ≤ 1048576)
def OpenSpec.upto (s : _root_.Go.ChangeSpec) : _root_.Go.OpenSpec := { _root_.Go.OpenSpec.ofChange s with cond := some uptoSmall }

/-- 'leatlaw11.ProduceOnly', WHERE WHAT IT READS IS OF BULK AT MOST 1048576: true; the input reads as it did. -/
def produceOnlyUptoRow : OpenClaim := { program := "yteckmgmcfngddaagreat", sum := "e0a33c223321ec128589bf0ead9a47ecc464cbe699ac45c6292f1d04e59c6e0f", func := "leat/leatlaw11.ProduceOnly", spec := "produceOnly", unfollowed := true, recurses := true, apart := false, narrowed := true }
def ProduceOnlyUptoSaid : Prop := produceOnlyUptoRow.holds Tryz.pinned (OpenSpec.upto produceOnlySpec)

/-- 'leatlaw13.OffsetsOnly', WHERE WHAT IT READS IS OF BULK AT MOST 1048576: true; the input reads as it did. -/
def offsetsOnlyUptoRow : OpenClaim := { program := "yteckmgmcfngddaagreat", sum := "e0a33c223321ec128589bf0ead9a47ecc464cbe699ac45c6292f1d04e59c6e0f", func := "leat/leatlaw13.OffsetsOnly", spec := "offsetsOnly", unfollowed := true, recurses := true, apart := false, narrowed := true }
def OffsetsOnlyUptoSaid : Prop := offsetsOnlyUptoRow.holds Tryz.pinned (OpenSpec.upto offsetsOnlySpec)

/-- 'leatlaw12.FetchOnly', WHERE WHAT IT READS IS OF BULK AT MOST 1048576: true; the input reads as it did. -/
def fetchOnlyUptoRow : OpenClaim := { program := "yteckmgmcfngddaagreat", sum := "e0a33c223321ec128589bf0ead9a47ecc464cbe699ac45c6292f1d04e59c6e0f", func := "leat/leatlaw12.FetchOnly", spec := "fetchOnly", unfollowed := true, recurses := true, apart := false, narrowed := true }
def FetchOnlyUptoSaid : Prop := fetchOnlyUptoRow.holds Tryz.pinned (OpenSpec.upto fetchOnlySpec)

/-- 'leatlaw16.CallPuts', WHERE WHAT IT READS IS OF BULK AT MOST 1048576: true; the input reads as it did. -/
def callPutsUptoRow : OpenClaim := { program := "yteckmgmcfngddaagreat", sum := "e0a33c223321ec128589bf0ead9a47ecc464cbe699ac45c6292f1d04e59c6e0f", func := "leat/leatlaw16.CallPuts", spec := "callPuts", unfollowed := true, recurses := true, apart := false, narrowed := true }
def CallPutsUptoSaid : Prop := callPutsUptoRow.holds Tryz.pinned (OpenSpec.upto callPutsSpec)

/-- 'leatlaw16.CallReplies', WHERE WHAT IT READS IS OF BULK AT MOST 1048576: true; the input reads as it did. -/
def callRepliesUptoRow : OpenClaim := { program := "yteckmgmcfngddaagreat", sum := "e0a33c223321ec128589bf0ead9a47ecc464cbe699ac45c6292f1d04e59c6e0f", func := "leat/leatlaw16.CallReplies", spec := "callReplies", unfollowed := true, recurses := true, apart := false, narrowed := true }
def CallRepliesUptoSaid : Prop := callRepliesUptoRow.holds Tryz.pinned (OpenSpec.upto callRepliesSpec)

/-- 'leatlaw16.CallGets', WHERE WHAT IT READS IS OF BULK AT MOST 1048576: true; the input reads as it did. -/
def callGetsUptoRow : OpenClaim := { program := "yteckmgmcfngddaagreat", sum := "e0a33c223321ec128589bf0ead9a47ecc464cbe699ac45c6292f1d04e59c6e0f", func := "leat/leatlaw16.CallGets", spec := "callGets", unfollowed := true, recurses := true, apart := false, narrowed := true }
def CallGetsUptoSaid : Prop := callGetsUptoRow.holds Tryz.pinned (OpenSpec.upto callGetsSpec)

/-- 'leatlaw16.CallBack', WHERE WHAT IT READS IS OF BULK AT MOST 1048576: true; the input reads as it did. -/
def callBackUptoRow : OpenClaim := { program := "yteckmgmcfngddaagreat", sum := "e0a33c223321ec128589bf0ead9a47ecc464cbe699ac45c6292f1d04e59c6e0f", func := "leat/leatlaw16.CallBack", spec := "callBack", unfollowed := true, recurses := true, apart := false, narrowed := true }
def CallBackUptoSaid : Prop := callBackUptoRow.holds Tryz.pinned (OpenSpec.upto callBackSpec)

/-- 'leatlaw16.CallOnly', WHERE WHAT IT READS IS OF BULK AT MOST 1048576: true; the input reads as it did. -/
def callOnlyUptoRow : OpenClaim := { program := "yteckmgmcfngddaagreat", sum := "e0a33c223321ec128589bf0ead9a47ecc464cbe699ac45c6292f1d04e59c6e0f", func := "leat/leatlaw16.CallOnly", spec := "callOnly", unfollowed := true, recurses := true, apart := false, narrowed := true }
def CallOnlyUptoSaid : Prop := callOnlyUptoRow.holds Tryz.pinned (OpenSpec.upto callOnlySpec)

end Rows
end Go.Proofs.YteckmgmcfngddaaGreat
