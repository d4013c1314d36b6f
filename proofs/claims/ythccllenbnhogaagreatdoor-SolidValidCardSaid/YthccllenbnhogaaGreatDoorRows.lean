/-
  NARROWER THAN 'FOR EVERY INPUT', by the rows' own cells (each row's printed sentence says how): SolidOf: laid · SolidBlock: laid · SolidEuler: laid · SolidValid: laid · SolidConvex: laid · SolidEqual: laid · SolidPlanes: laid.
  DERIVED. THE GIVEN ROWS OF THIS SEAT. 7 by the template 'for every input the law returns true; each argument reads behind the call as it read before'; 0 by the template 'total and deterministic' (their statements: YthccllenbnhogaaGreatDoorTotals.lean).
  GIVEN WITH THE SEED: the statements are not yours to turn. If you find one false, say at which input.
  Laid BY PROGRAM, IN A SANDBOX (cutbox-rows.mjs): the forced cells as the released guide's own fill.sh prints them over the translation b048e7fefd91ad75… (all of the seat's roots in one cut). By AI agents, Wed Nov 11 2026. No macro, syntax, notation, axiom, sorry.
-/
import Derived.Test.YthccllenbnhogaaGreatDoorChecked
import GoSem.PinnedTables
import GoSem.Claim
import GoSem.ClaimJoined
import GoSem.ClaimMapViews
import Derived.JoinedTies
import Derived.KernelRfl
namespace Go.Proofs.YthccllenbnhogaaGreatDoor
/- THE CELL 'sum', in the pinned program and in every row, IS THE sha256 OF THE DUMP (.gsa) THAT YthccllenbnhogaaGreatDoorProg.lean LOADS. Nothing in Lean hashes anything: it is a label: what it is worth is what the hold of that sum in a sandbox is worth. -/
noncomputable def Tryz.pinned : Pinned := { name := "ythccllenbnhogaagreatdoor", sum := "b048e7fefd91ad759c370d3633a2b80d4892596edc3ee472373bec8b928eb4cf", checked := Tryz.checked }
namespace Rows
def none {H : Type} : Left H := { results := [], args := [] }

/- WHAT THE LISTED PACKAGE-LEVEL VARIABLES READ AS WHEN THE CALL BEGINS. Each datum BY PROGRAM (the guide's laid-datum.mjs) off the statement by which the dump's own 'gosem.cut.vars' lays the variable. In a bare row this is a premise. The card (YthccllenbnhogaaGreatDoorCards.lean) ties it to the program's text. -/
def laid_unicode_utf8_acceptRanges {H : Type} : DataW H := .agg [.agg [.lit (.int .u8 128), .lit (.int .u8 191)], .agg [.lit (.int .u8 160), .lit (.int .u8 191)], .agg [.lit (.int .u8 128), .lit (.int .u8 159)], .agg [.lit (.int .u8 144), .lit (.int .u8 191)], .agg [.lit (.int .u8 128), .lit (.int .u8 143)], .agg [.lit (.int .u8 0), .lit (.int .u8 0)], .agg [.lit (.int .u8 0), .lit (.int .u8 0)], .agg [.lit (.int .u8 0), .lit (.int .u8 0)], .agg [.lit (.int .u8 0), .lit (.int .u8 0)], .agg [.lit (.int .u8 0), .lit (.int .u8 0)], .agg [.lit (.int .u8 0), .lit (.int .u8 0)], .agg [.lit (.int .u8 0), .lit (.int .u8 0)], .agg [.lit (.int .u8 0), .lit (.int .u8 0)], .agg [.lit (.int .u8 0), .lit (.int .u8 0)], .agg [.lit (.int .u8 0), .lit (.int .u8 0)], .agg [.lit (.int .u8 0), .lit (.int .u8 0)]]
/-- One of Go's own tables, pinned by name: the form's constant. -/
def laid_unicode_utf8_first : DataW Unit := Go.Pinned.utf8First

/-- 'culetlaw07.SolidOf': WHATEVER THE INPUT: true; the input reads as it did. -/
def solidOfSpec : ChangeSpec := { name := "solidOf", fn := fun _ => fun
  | [d] => { results := [.lit (.bool true)], args := [d] }
  | _ => none }
def solidOfRow : OpenClaim := { program := "ythccllenbnhogaagreatdoor", sum := "b048e7fefd91ad759c370d3633a2b80d4892596edc3ee472373bec8b928eb4cf", func := "culet/culetlaw07.SolidOf", spec := "solidOf", inPlace := ["internal/bytealg.IndexByteString", "internal/bytealg.IndexString"], unfollowed := true, recurses := true, named := ["unicode/utf8.first", "unicode/utf8.acceptRanges", "math/bits.overflowError", "internal/bytealg.MaxLen"], apart := false, laid := [("unicode/utf8.acceptRanges", laid_unicode_utf8_acceptRanges), ("unicode/utf8.first", laid_unicode_utf8_first)] }
def SolidOfSaid : Prop := solidOfRow.holds Tryz.pinned (OpenSpec.ofChange solidOfSpec)

/-- ITS FALSE NEIGHBOUR: 'it returns false'. Refute it at one input. -/
def solidOfWrong : ChangeSpec := { name := "solidOf", fn := fun _ => fun
  | [d] => { results := [.lit (.bool false)], args := [d] }
  | _ => none }
def SolidOfWrongFalsely : Prop := solidOfRow.holds Tryz.pinned (OpenSpec.ofChange solidOfWrong)

/-- 'culetlaw07.SolidBlock': WHATEVER THE INPUT: true; the input reads as it did. -/
def solidBlockSpec : ChangeSpec := { name := "solidBlock", fn := fun _ => fun
  | [d] => { results := [.lit (.bool true)], args := [d] }
  | _ => none }
def solidBlockRow : OpenClaim := { program := "ythccllenbnhogaagreatdoor", sum := "b048e7fefd91ad759c370d3633a2b80d4892596edc3ee472373bec8b928eb4cf", func := "culet/culetlaw07.SolidBlock", spec := "solidBlock", inPlace := ["internal/bytealg.IndexByteString", "internal/bytealg.IndexString"], unfollowed := true, recurses := true, named := ["unicode/utf8.first", "unicode/utf8.acceptRanges", "math/bits.overflowError", "internal/bytealg.MaxLen"], apart := false, laid := [("unicode/utf8.acceptRanges", laid_unicode_utf8_acceptRanges), ("unicode/utf8.first", laid_unicode_utf8_first)] }
def SolidBlockSaid : Prop := solidBlockRow.holds Tryz.pinned (OpenSpec.ofChange solidBlockSpec)

/-- ITS FALSE NEIGHBOUR: 'it returns false'. Refute it at one input. -/
def solidBlockWrong : ChangeSpec := { name := "solidBlock", fn := fun _ => fun
  | [d] => { results := [.lit (.bool false)], args := [d] }
  | _ => none }
def SolidBlockWrongFalsely : Prop := solidBlockRow.holds Tryz.pinned (OpenSpec.ofChange solidBlockWrong)

/-- 'culetlaw07.SolidEuler': WHATEVER THE INPUT: true; the input reads as it did. -/
def solidEulerSpec : ChangeSpec := { name := "solidEuler", fn := fun _ => fun
  | [d] => { results := [.lit (.bool true)], args := [d] }
  | _ => none }
def solidEulerRow : OpenClaim := { program := "ythccllenbnhogaagreatdoor", sum := "b048e7fefd91ad759c370d3633a2b80d4892596edc3ee472373bec8b928eb4cf", func := "culet/culetlaw07.SolidEuler", spec := "solidEuler", inPlace := ["internal/bytealg.IndexByteString", "internal/bytealg.IndexString"], unfollowed := true, recurses := true, named := ["unicode/utf8.first", "unicode/utf8.acceptRanges", "math/bits.overflowError", "internal/bytealg.MaxLen"], apart := false, laid := [("unicode/utf8.acceptRanges", laid_unicode_utf8_acceptRanges), ("unicode/utf8.first", laid_unicode_utf8_first)] }
def SolidEulerSaid : Prop := solidEulerRow.holds Tryz.pinned (OpenSpec.ofChange solidEulerSpec)

/-- ITS FALSE NEIGHBOUR: 'it returns false'. Refute it at one input. -/
def solidEulerWrong : ChangeSpec := { name := "solidEuler", fn := fun _ => fun
  | [d] => { results := [.lit (.bool false)], args := [d] }
  | _ => none }
def SolidEulerWrongFalsely : Prop := solidEulerRow.holds Tryz.pinned (OpenSpec.ofChange solidEulerWrong)

/-- 'culetlaw07.SolidValid': WHATEVER THE INPUT: true; the input reads as it did. -/
def solidValidSpec : ChangeSpec := { name := "solidValid", fn := fun _ => fun
  | [d1, d2] => { results := [.lit (.bool true)], args := [d1, d2] }
  | _ => none }
def solidValidRow : OpenClaim := { program := "ythccllenbnhogaagreatdoor", sum := "b048e7fefd91ad759c370d3633a2b80d4892596edc3ee472373bec8b928eb4cf", func := "culet/culetlaw07.SolidValid", spec := "solidValid", inPlace := ["internal/bytealg.IndexByteString", "internal/bytealg.IndexString"], unfollowed := true, recurses := true, named := ["unicode/utf8.first", "unicode/utf8.acceptRanges", "math/bits.overflowError", "internal/bytealg.MaxLen"], apart := false, laid := [("unicode/utf8.acceptRanges", laid_unicode_utf8_acceptRanges), ("unicode/utf8.first", laid_unicode_utf8_first)] }
def SolidValidSaid : Prop := solidValidRow.holds Tryz.pinned (OpenSpec.ofChange solidValidSpec)

/-- ITS FALSE NEIGHBOUR: 'it returns false'. Refute it at one input. -/
def solidValidWrong : ChangeSpec := { name := "solidValid", fn := fun _ => fun
  | [d1, d2] => { results := [.lit (.bool false)], args := [d1, d2] }
  | _ => none }
def SolidValidWrongFalsely : Prop := solidValidRow.holds Tryz.pinned (OpenSpec.ofChange solidValidWrong)

/-- 'culetlaw07.SolidConvex': WHATEVER THE INPUT: true; the input reads as it did. -/
def solidConvexSpec : ChangeSpec := { name := "solidConvex", fn := fun _ => fun
  | [d1, d2] => { results := [.lit (.bool true)], args := [d1, d2] }
  | _ => none }
def solidConvexRow : OpenClaim := { program := "ythccllenbnhogaagreatdoor", sum := "b048e7fefd91ad759c370d3633a2b80d4892596edc3ee472373bec8b928eb4cf", func := "culet/culetlaw07.SolidConvex", spec := "solidConvex", inPlace := ["internal/bytealg.IndexByteString", "internal/bytealg.IndexString"], unfollowed := true, recurses := true, named := ["unicode/utf8.first", "unicode/utf8.acceptRanges", "math/bits.overflowError", "internal/bytealg.MaxLen"], apart := false, laid := [("unicode/utf8.acceptRanges", laid_unicode_utf8_acceptRanges), ("unicode/utf8.first", laid_unicode_utf8_first)] }
def SolidConvexSaid : Prop := solidConvexRow.holds Tryz.pinned (OpenSpec.ofChange solidConvexSpec)

/-- ITS FALSE NEIGHBOUR: 'it returns false'. Refute it at one input. -/
def solidConvexWrong : ChangeSpec := { name := "solidConvex", fn := fun _ => fun
  | [d1, d2] => { results := [.lit (.bool false)], args := [d1, d2] }
  | _ => none }
def SolidConvexWrongFalsely : Prop := solidConvexRow.holds Tryz.pinned (OpenSpec.ofChange solidConvexWrong)

/-- 'culetlaw07.SolidEqual': WHATEVER THE INPUT: true; the input reads as it did. -/
def solidEqualSpec : ChangeSpec := { name := "solidEqual", fn := fun _ => fun
  | [d1, d2] => { results := [.lit (.bool true)], args := [d1, d2] }
  | _ => none }
def solidEqualRow : OpenClaim := { program := "ythccllenbnhogaagreatdoor", sum := "b048e7fefd91ad759c370d3633a2b80d4892596edc3ee472373bec8b928eb4cf", func := "culet/culetlaw07.SolidEqual", spec := "solidEqual", inPlace := ["internal/bytealg.IndexByteString", "internal/bytealg.IndexString"], unfollowed := true, recurses := true, named := ["unicode/utf8.first", "unicode/utf8.acceptRanges", "math/bits.overflowError", "internal/bytealg.MaxLen"], apart := false, laid := [("unicode/utf8.acceptRanges", laid_unicode_utf8_acceptRanges), ("unicode/utf8.first", laid_unicode_utf8_first)] }
def SolidEqualSaid : Prop := solidEqualRow.holds Tryz.pinned (OpenSpec.ofChange solidEqualSpec)

/-- ITS FALSE NEIGHBOUR: 'it returns false'. Refute it at one input. -/
def solidEqualWrong : ChangeSpec := { name := "solidEqual", fn := fun _ => fun
  | [d1, d2] => { results := [.lit (.bool false)], args := [d1, d2] }
  | _ => none }
def SolidEqualWrongFalsely : Prop := solidEqualRow.holds Tryz.pinned (OpenSpec.ofChange solidEqualWrong)

/-- 'culetlaw07.SolidPlanes': WHATEVER THE INPUT: true; the input reads as it did. -/
def solidPlanesSpec : ChangeSpec := { name := "solidPlanes", fn := fun _ => fun
  | [d1, d2, d3] => { results := [.lit (.bool true)], args := [d1, d2, d3] }
  | _ => none }
def solidPlanesRow : OpenClaim := { program := "ythccllenbnhogaagreatdoor", sum := "b048e7fefd91ad759c370d3633a2b80d4892596edc3ee472373bec8b928eb4cf", func := "culet/culetlaw07.SolidPlanes", spec := "solidPlanes", inPlace := ["internal/bytealg.IndexByteString", "internal/bytealg.IndexString"], unfollowed := true, recurses := true, named := ["unicode/utf8.first", "unicode/utf8.acceptRanges", "math/bits.overflowError", "internal/bytealg.MaxLen"], apart := false, laid := [("unicode/utf8.acceptRanges", laid_unicode_utf8_acceptRanges), ("unicode/utf8.first", laid_unicode_utf8_first)] }
def SolidPlanesSaid : Prop := solidPlanesRow.holds Tryz.pinned (OpenSpec.ofChange solidPlanesSpec)

/-- ITS FALSE NEIGHBOUR: 'it returns false'. Refute it at one input. -/
def solidPlanesWrong : ChangeSpec := { name := "solidPlanes", fn := fun _ => fun
  | [d1, d2, d3] => { results := [.lit (.bool false)], args := [d1, d2, d3] }
  | _ => none }
def SolidPlanesWrongFalsely : Prop := solidPlanesRow.holds Tryz.pinned (OpenSpec.ofChange solidPlanesWrong)

/- THE SECOND FORM. 'bulk': how many values and letters a reading holds, each counted each time it is reached (what is shared counts as often as it is met; a slice's spare places count too). A statement '..UptoSaid' is the law's where the arguments, and the package variables that the reading takes, are together of bulk at most 1048576: NARROWER than '..Said'. Prove '..Said' where nothing that the law and all that it calls make is longer than what came in: it says more and counts as full. Else prove '..UptoSaid'. A law counts once. -/
mutual
def uptoBulk {H : Type} : DataW H → Nat
  | .lit (.string bytes) => bytes.length + 1
  | .lit _ => 1
  | .nil => 1
  | .ptr d => uptoBulk d + 1
  | .slice elems spare => uptoBulkAll elems + uptoBulkAll spare + 1
  | .agg parts => uptoBulkAll parts + 1
  | .iface _ d => uptoBulk d + 1
  | .map entries => uptoBulkEntries entries + 1
  | .held _ => 1
def uptoBulkAll {H : Type} : List (DataW H) → Nat
  | [] => 0
  | d :: r => uptoBulk d + uptoBulkAll r
def uptoBulkEntries {H : Type} : List (Lit × DataW H) → Nat
  | [] => 0
  | x :: r => uptoBulkEntry x + uptoBulkEntries r
def uptoBulkEntry {H : Type} : Lit × DataW H → Nat
  | (.string bytes, d) => bytes.length + uptoBulk d + 1
  | (_, d) => uptoBulk d + 1
 end
def uptoSmall : (H : Type) → List (DataW H) → Bool := fun _ ds => decide (uptoBulkAll ds ≤ 1048576)
def OpenSpec.upto (s : _root_.Go.ChangeSpec) : _root_.Go.OpenSpec := { _root_.Go.OpenSpec.ofChange s with cond := some uptoSmall }

/-- 'culetlaw07.SolidOf', WHERE WHAT IT READS IS OF BULK AT MOST 1048576: true; the input reads as it did. -/
def solidOfUptoRow : OpenClaim := { program := "ythccllenbnhogaagreatdoor", sum := "b048e7fefd91ad759c370d3633a2b80d4892596edc3ee472373bec8b928eb4cf", func := "culet/culetlaw07.SolidOf", spec := "solidOf", inPlace := ["internal/bytealg.IndexByteString", "internal/bytealg.IndexString"], unfollowed := true, recurses := true, named := ["unicode/utf8.first", "unicode/utf8.acceptRanges", "math/bits.overflowError", "internal/bytealg.MaxLen"], apart := false, laid := [("unicode/utf8.acceptRanges", laid_unicode_utf8_acceptRanges), ("unicode/utf8.first", laid_unicode_utf8_first)], narrowed := true }
def SolidOfUptoSaid : Prop := solidOfUptoRow.holds Tryz.pinned (OpenSpec.upto solidOfSpec)

/-- 'culetlaw07.SolidBlock', WHERE WHAT IT READS IS OF BULK AT MOST 1048576: true; the input reads as it did. -/
def solidBlockUptoRow : OpenClaim := { program := "ythccllenbnhogaagreatdoor", sum := "b048e7fefd91ad759c370d3633a2b80d4892596edc3ee472373bec8b928eb4cf", func := "culet/culetlaw07.SolidBlock", spec := "solidBlock", inPlace := ["internal/bytealg.IndexByteString", "internal/bytealg.IndexString"], unfollowed := true, recurses := true, named := ["unicode/utf8.first", "unicode/utf8.acceptRanges", "math/bits.overflowError", "internal/bytealg.MaxLen"], apart := false, laid := [("unicode/utf8.acceptRanges", laid_unicode_utf8_acceptRanges), ("unicode/utf8.first", laid_unicode_utf8_first)], narrowed := true }
def SolidBlockUptoSaid : Prop := solidBlockUptoRow.holds Tryz.pinned (OpenSpec.upto solidBlockSpec)

/-- 'culetlaw07.SolidEuler', WHERE WHAT IT READS IS OF BULK AT MOST 1048576: true; the input reads as it did. -/
def solidEulerUptoRow : OpenClaim := { program := "ythccllenbnhogaagreatdoor", sum := "b048e7fefd91ad759c370d3633a2b80d4892596edc3ee472373bec8b928eb4cf", func := "culet/culetlaw07.SolidEuler", spec := "solidEuler", inPlace := ["internal/bytealg.IndexByteString", "internal/bytealg.IndexString"], unfollowed := true, recurses := true, named := ["unicode/utf8.first", "unicode/utf8.acceptRanges", "math/bits.overflowError", "internal/bytealg.MaxLen"], apart := false, laid := [("unicode/utf8.acceptRanges", laid_unicode_utf8_acceptRanges), ("unicode/utf8.first", laid_unicode_utf8_first)], narrowed := true }
def SolidEulerUptoSaid : Prop := solidEulerUptoRow.holds Tryz.pinned (OpenSpec.upto solidEulerSpec)

/-- 'culetlaw07.SolidValid', WHERE WHAT IT READS IS OF BULK AT MOST 1048576: true; the input reads as it did. -/
def solidValidUptoRow : OpenClaim := { program := "ythccllenbnhogaagreatdoor", sum := "b048e7fefd91ad759c370d3633a2b80d4892596edc3ee472373bec8b928eb4cf", func := "culet/culetlaw07.SolidValid", spec := "solidValid", inPlace := ["internal/bytealg.IndexByteString", "internal/bytealg.IndexString"], unfollowed := true, recurses := true, named := ["unicode/utf8.first", "unicode/utf8.acceptRanges", "math/bits.overflowError", "internal/bytealg.MaxLen"], apart := false, laid := [("unicode/utf8.acceptRanges", laid_unicode_utf8_acceptRanges), ("unicode/utf8.first", laid_unicode_utf8_first)], narrowed := true }
def SolidValidUptoSaid : Prop := solidValidUptoRow.holds Tryz.pinned (OpenSpec.upto solidValidSpec)

/-- 'culetlaw07.SolidConvex', WHERE WHAT IT READS IS OF BULK AT MOST 1048576: true; the input reads as it did. -/
def solidConvexUptoRow : OpenClaim := { program := "ythccllenbnhogaagreatdoor", sum := "b048e7fefd91ad759c370d3633a2b80d4892596edc3ee472373bec8b928eb4cf", func := "culet/culetlaw07.SolidConvex", spec := "solidConvex", inPlace := ["internal/bytealg.IndexByteString", "internal/bytealg.IndexString"], unfollowed := true, recurses := true, named := ["unicode/utf8.first", "unicode/utf8.acceptRanges", "math/bits.overflowError", "internal/bytealg.MaxLen"], apart := false, laid := [("unicode/utf8.acceptRanges", laid_unicode_utf8_acceptRanges), ("unicode/utf8.first", laid_unicode_utf8_first)], narrowed := true }
def SolidConvexUptoSaid : Prop := solidConvexUptoRow.holds Tryz.pinned (OpenSpec.upto solidConvexSpec)

/-- 'culetlaw07.SolidEqual', WHERE WHAT IT READS IS OF BULK AT MOST 1048576: true; the input reads as it did. -/
def solidEqualUptoRow : OpenClaim := { program := "ythccllenbnhogaagreatdoor", sum := "b048e7fefd91ad759c370d3633a2b80d4892596edc3ee472373bec8b928eb4cf", func := "culet/culetlaw07.SolidEqual", spec := "solidEqual", inPlace := ["internal/bytealg.IndexByteString", "internal/bytealg.IndexString"], unfollowed := true, recurses := true, named := ["unicode/utf8.first", "unicode/utf8.acceptRanges", "math/bits.overflowError", "internal/bytealg.MaxLen"], apart := false, laid := [("unicode/utf8.acceptRanges", laid_unicode_utf8_acceptRanges), ("unicode/utf8.first", laid_unicode_utf8_first)], narrowed := true }
def SolidEqualUptoSaid : Prop := solidEqualUptoRow.holds Tryz.pinned (OpenSpec.upto solidEqualSpec)

/-- 'culetlaw07.SolidPlanes', WHERE WHAT IT READS IS OF BULK AT MOST 1048576: true; the input reads as it did. -/
def solidPlanesUptoRow : OpenClaim := { program := "ythccllenbnhogaagreatdoor", sum := "b048e7fefd91ad759c370d3633a2b80d4892596edc3ee472373bec8b928eb4cf", func := "culet/culetlaw07.SolidPlanes", spec := "solidPlanes", inPlace := ["internal/bytealg.IndexByteString", "internal/bytealg.IndexString"], unfollowed := true, recurses := true, named := ["unicode/utf8.first", "unicode/utf8.acceptRanges", "math/bits.overflowError", "internal/bytealg.MaxLen"], apart := false, laid := [("unicode/utf8.acceptRanges", laid_unicode_utf8_acceptRanges), ("unicode/utf8.first", laid_unicode_utf8_first)], narrowed := true }
def SolidPlanesUptoSaid : Prop := solidPlanesUptoRow.holds Tryz.pinned (OpenSpec.upto solidPlanesSpec)

end Rows
end Go.Proofs.YthccllenbnhogaaGreatDoor
