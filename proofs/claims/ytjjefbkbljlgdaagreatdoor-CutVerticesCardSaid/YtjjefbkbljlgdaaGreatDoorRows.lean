/-
  NARROWER THAN 'FOR EVERY INPUT', by the rows' own cells (each row's printed sentence says how): CutPoints: laid · CutOrder: laid · CutOne: laid · CutVertices: laid.
  DERIVED. THE GIVEN ROWS OF THIS SEAT. 4 by the template 'for every input the law returns true; each argument reads behind the call as it read before'; 0 by the template 'total and deterministic' (their statements: YtjjefbkbljlgdaaGreatDoorTotals.lean).
  GIVEN WITH THE SEED: the statements are not yours to turn. If you find one false, say at which input.
  Laid BY PROGRAM, IN A SANDBOX (cutbox-rows.mjs): the forced cells as the released guide's own fill.sh prints them over the translation 17c0b05d26dff26e… (all of the seat's roots in one cut). By AI agents, Wed Nov 11 2026. No macro, syntax, notation, axiom, sorry.
-/
import Derived.Test.YtjjefbkbljlgdaaGreatDoorChecked
import GoSem.PinnedTables
import GoSem.Claim
import GoSem.ClaimJoined
import GoSem.ClaimMapViews
import Derived.JoinedTies
import Derived.KernelRfl
namespace Go.Proofs.YtjjefbkbljlgdaaGreatDoor
/- THE CELL 'sum', in the pinned program and in every row, IS THE sha256 OF THE DUMP (.gsa) THAT YtjjefbkbljlgdaaGreatDoorProg.lean LOADS. Nothing in Lean hashes anything: it is a label: what it is worth is what the hold of that sum in a sandbox is worth. -/
noncomputable def Tryz.pinned : Pinned := { name := "ytjjefbkbljlgdaagreatdoor", sum := "17c0b05d26dff26ef08f03e8825be1e9b680701c74161dcfdd207dca47246d2d", checked := Tryz.checked }
namespace Rows
def none {H : Type} : Left H := { results := [], args := [] }

/- WHAT THE LISTED PACKAGE-LEVEL VARIABLES READ AS WHEN THE CALL BEGINS. Each datum BY PROGRAM (the guide's laid-datum.mjs) off the statement by which the dump's own 'gosem.cut.vars' lays the variable. In a bare row this is a premise. The card (YtjjefbkbljlgdaaGreatDoorCards.lean) ties it to the program's text. -/
def laid_unicode_utf8_acceptRanges {H : Type} : DataW H := .agg [.agg [.lit (.int .u8 128), .lit (.int .u8 191)], .agg [.lit (.int .u8 160), .lit (.int .u8 191)], .agg [.lit (.int .u8 128), .lit (.int .u8 159)], .agg [.lit (.int .u8 144), .lit (.int .u8 191)], .agg [.lit (.int .u8 128), .lit (.int .u8 143)], .agg [.lit (.int .u8 0), .lit (.int .u8 0)], .agg [.lit (.int .u8 0), .lit (.int .u8 0)], .agg [.lit (.int .u8 0), .lit (.int .u8 0)], .agg [.lit (.int .u8 0), .lit (.int .u8 0)], .agg [.lit (.int .u8 0), .lit (.int .u8 0)], .agg [.lit (.int .u8 0), .lit (.int .u8 0)], .agg [.lit (.int .u8 0), .lit (.int .u8 0)], .agg [.lit (.int .u8 0), .lit (.int .u8 0)], .agg [.lit (.int .u8 0), .lit (.int .u8 0)], .agg [.lit (.int .u8 0), .lit (.int .u8 0)], .agg [.lit (.int .u8 0), .lit (.int .u8 0)]]
/-- One of Go's own tables, pinned by name: the form's constant. -/
def laid_unicode_utf8_first : DataW Unit := Go.Pinned.utf8First

/-- 'culetlaw08.CutPoints': WHATEVER THE INPUT: true; the input reads as it did. -/
def cutPointsSpec : ChangeSpec := { name := "cutPoints", fn := fun _ => fun
  | [d1, d2, d3] => { results := [.lit (.bool true)], args := [d1, d2, d3] }
  | _ => none }
def cutPointsRow : OpenClaim := { program := "ytjjefbkbljlgdaagreatdoor", sum := "17c0b05d26dff26ef08f03e8825be1e9b680701c74161dcfdd207dca47246d2d", func := "culet/culetlaw08.CutPoints", spec := "cutPoints", inPlace := ["internal/bytealg.IndexByteString", "internal/bytealg.IndexString"], unfollowed := true, recurses := true, named := ["math/bits.overflowError", "unicode/utf8.first", "unicode/utf8.acceptRanges", "internal/bytealg.MaxLen"], apart := false, laid := [("unicode/utf8.acceptRanges", laid_unicode_utf8_acceptRanges), ("unicode/utf8.first", laid_unicode_utf8_first)] }
def CutPointsSaid : Prop := cutPointsRow.holds Tryz.pinned (OpenSpec.ofChange cutPointsSpec)

/-- ITS FALSE NEIGHBOUR: 'it returns false'. Refute it at one input. -/
def cutPointsWrong : ChangeSpec := { name := "cutPoints", fn := fun _ => fun
  | [d1, d2, d3] => { results := [.lit (.bool false)], args := [d1, d2, d3] }
  | _ => none }
def CutPointsWrongFalsely : Prop := cutPointsRow.holds Tryz.pinned (OpenSpec.ofChange cutPointsWrong)

/-- 'culetlaw08.CutOrder': WHATEVER THE INPUT: true; the input reads as it did. -/
def cutOrderSpec : ChangeSpec := { name := "cutOrder", fn := fun _ => fun
  | [d1, d2, d3] => { results := [.lit (.bool true)], args := [d1, d2, d3] }
  | _ => none }
def cutOrderRow : OpenClaim := { program := "ytjjefbkbljlgdaagreatdoor", sum := "17c0b05d26dff26ef08f03e8825be1e9b680701c74161dcfdd207dca47246d2d", func := "culet/culetlaw08.CutOrder", spec := "cutOrder", inPlace := ["internal/bytealg.IndexByteString", "internal/bytealg.IndexString"], unfollowed := true, recurses := true, named := ["math/bits.overflowError", "unicode/utf8.first", "unicode/utf8.acceptRanges", "internal/bytealg.MaxLen"], apart := false, laid := [("unicode/utf8.acceptRanges", laid_unicode_utf8_acceptRanges), ("unicode/utf8.first", laid_unicode_utf8_first)] }
def CutOrderSaid : Prop := cutOrderRow.holds Tryz.pinned (OpenSpec.ofChange cutOrderSpec)

/-- ITS FALSE NEIGHBOUR: 'it returns false'. Refute it at one input. -/
def cutOrderWrong : ChangeSpec := { name := "cutOrder", fn := fun _ => fun
  | [d1, d2, d3] => { results := [.lit (.bool false)], args := [d1, d2, d3] }
  | _ => none }
def CutOrderWrongFalsely : Prop := cutOrderRow.holds Tryz.pinned (OpenSpec.ofChange cutOrderWrong)

/-- 'culetlaw08.CutOne': WHATEVER THE INPUT: true; the input reads as it did. -/
def cutOneSpec : ChangeSpec := { name := "cutOne", fn := fun _ => fun
  | [d1, d2] => { results := [.lit (.bool true)], args := [d1, d2] }
  | _ => none }
def cutOneRow : OpenClaim := { program := "ytjjefbkbljlgdaagreatdoor", sum := "17c0b05d26dff26ef08f03e8825be1e9b680701c74161dcfdd207dca47246d2d", func := "culet/culetlaw08.CutOne", spec := "cutOne", inPlace := ["internal/bytealg.IndexByteString", "internal/bytealg.IndexString"], unfollowed := true, recurses := true, named := ["math/bits.overflowError", "unicode/utf8.first", "unicode/utf8.acceptRanges", "internal/bytealg.MaxLen"], apart := false, laid := [("unicode/utf8.acceptRanges", laid_unicode_utf8_acceptRanges), ("unicode/utf8.first", laid_unicode_utf8_first)] }
def CutOneSaid : Prop := cutOneRow.holds Tryz.pinned (OpenSpec.ofChange cutOneSpec)

/-- ITS FALSE NEIGHBOUR: 'it returns false'. Refute it at one input. -/
def cutOneWrong : ChangeSpec := { name := "cutOne", fn := fun _ => fun
  | [d1, d2] => { results := [.lit (.bool false)], args := [d1, d2] }
  | _ => none }
def CutOneWrongFalsely : Prop := cutOneRow.holds Tryz.pinned (OpenSpec.ofChange cutOneWrong)

/-- 'culetlaw08.CutVertices': WHATEVER THE INPUT: true; the input reads as it did. -/
def cutVerticesSpec : ChangeSpec := { name := "cutVertices", fn := fun _ => fun
  | [d1, d2] => { results := [.lit (.bool true)], args := [d1, d2] }
  | _ => none }
def cutVerticesRow : OpenClaim := { program := "ytjjefbkbljlgdaagreatdoor", sum := "17c0b05d26dff26ef08f03e8825be1e9b680701c74161dcfdd207dca47246d2d", func := "culet/culetlaw08.CutVertices", spec := "cutVertices", inPlace := ["internal/bytealg.IndexByteString", "internal/bytealg.IndexString"], unfollowed := true, recurses := true, named := ["math/bits.overflowError", "unicode/utf8.first", "unicode/utf8.acceptRanges", "internal/bytealg.MaxLen"], apart := false, laid := [("unicode/utf8.acceptRanges", laid_unicode_utf8_acceptRanges), ("unicode/utf8.first", laid_unicode_utf8_first)] }
def CutVerticesSaid : Prop := cutVerticesRow.holds Tryz.pinned (OpenSpec.ofChange cutVerticesSpec)

/-- ITS FALSE NEIGHBOUR: 'it returns false'. Refute it at one input. -/
def cutVerticesWrong : ChangeSpec := { name := "cutVertices", fn := fun _ => fun
  | [d1, d2] => { results := [.lit (.bool false)], args := [d1, d2] }
  | _ => none }
def CutVerticesWrongFalsely : Prop := cutVerticesRow.holds Tryz.pinned (OpenSpec.ofChange cutVerticesWrong)

/- THE SECOND FORM. 'bulk': how many values and letters a reading holds, each counted each time it is reached (what is shared counts as often as it is met; a slice's spare places count too). A statement '..UptoSaid' is the law's where the arguments, and the package variables that the reading takes, are together of bulk at most 1048576: NARROWER than '..Said'. Prove '..Said' where nothing that the law and all that it calls make is longer than what came in: it says more and counts as full. Else prove '..UptoSaid'. A law counts once. -/
mutual
def uptoBulk {H : Type} : DataW H → Nat
  | .lit (.string bytes) => bytes.length + 1
  | .lit _ => 1
  | .nil => 1
  | .ptr d => uptoBulk d + 1
  | .slice elems spare => uptoBulkAll elems + uptoBulkAll spare + 1
  | .agg parts => uptoBulkAll parts + 1
  | .iface _ d => uptoBulk d + 1
  | .map entries => uptoBulkEntries entries + 1
  | .held _ => 1
def uptoBulkAll {H : Type} : List (DataW H) → Nat
  | [] => 0
  | d :: r => uptoBulk d + uptoBulkAll r
def uptoBulkEntries {H : Type} : List (Lit × DataW H) → Nat
  | [] => 0
  | x :: r => uptoBulkEntry x + uptoBulkEntries r
def uptoBulkEntry {H : Type} : Lit × DataW H → Nat
  | (.string bytes, d) => bytes.length + uptoBulk d + 1
  | (_, d) => uptoBulk d + 1
 end
def uptoSmall : (H : Type) → List (DataW H) → Bool := fun _ ds => decide (uptoBulkAll ds ≤ 1048576)
def OpenSpec.upto (s : _root_.Go.ChangeSpec) : _root_.Go.OpenSpec := { _root_.Go.OpenSpec.ofChange s with cond := some uptoSmall }

/-- 'culetlaw08.CutPoints', WHERE WHAT IT READS IS OF BULK AT MOST 1048576: true; the input reads as it did. -/
def cutPointsUptoRow : OpenClaim := { program := "ytjjefbkbljlgdaagreatdoor", sum := "17c0b05d26dff26ef08f03e8825be1e9b680701c74161dcfdd207dca47246d2d", func := "culet/culetlaw08.CutPoints", spec := "cutPoints", inPlace := ["internal/bytealg.IndexByteString", "internal/bytealg.IndexString"], unfollowed := true, recurses := true, named := ["math/bits.overflowError", "unicode/utf8.first", "unicode/utf8.acceptRanges", "internal/bytealg.MaxLen"], apart := false, laid := [("unicode/utf8.acceptRanges", laid_unicode_utf8_acceptRanges), ("unicode/utf8.first", laid_unicode_utf8_first)], narrowed := true }
def CutPointsUptoSaid : Prop := cutPointsUptoRow.holds Tryz.pinned (OpenSpec.upto cutPointsSpec)

/-- 'culetlaw08.CutOrder', WHERE WHAT IT READS IS OF BULK AT MOST 1048576: true; the input reads as it did. -/
def cutOrderUptoRow : OpenClaim := { program := "ytjjefbkbljlgdaagreatdoor", sum := "17c0b05d26dff26ef08f03e8825be1e9b680701c74161dcfdd207dca47246d2d", func := "culet/culetlaw08.CutOrder", spec := "cutOrder", inPlace := ["internal/bytealg.IndexByteString", "internal/bytealg.IndexString"], unfollowed := true, recurses := true, named := ["math/bits.overflowError", "unicode/utf8.first", "unicode/utf8.acceptRanges", "internal/bytealg.MaxLen"], apart := false, laid := [("unicode/utf8.acceptRanges", laid_unicode_utf8_acceptRanges), ("unicode/utf8.first", laid_unicode_utf8_first)], narrowed := true }
def CutOrderUptoSaid : Prop := cutOrderUptoRow.holds Tryz.pinned (OpenSpec.upto cutOrderSpec)

/-- 'culetlaw08.CutOne', WHERE WHAT IT READS IS OF BULK AT MOST 1048576: true; the input reads as it did. -/
def cutOneUptoRow : OpenClaim := { program := "ytjjefbkbljlgdaagreatdoor", sum := "17c0b05d26dff26ef08f03e8825be1e9b680701c74161dcfdd207dca47246d2d", func := "culet/culetlaw08.CutOne", spec := "cutOne", inPlace := ["internal/bytealg.IndexByteString", "internal/bytealg.IndexString"], unfollowed := true, recurses := true, named := ["math/bits.overflowError", "unicode/utf8.first", "unicode/utf8.acceptRanges", "internal/bytealg.MaxLen"], apart := false, laid := [("unicode/utf8.acceptRanges", laid_unicode_utf8_acceptRanges), ("unicode/utf8.first", laid_unicode_utf8_first)], narrowed := true }
def CutOneUptoSaid : Prop := cutOneUptoRow.holds Tryz.pinned (OpenSpec.upto cutOneSpec)

/-- 'culetlaw08.CutVertices', WHERE WHAT IT READS IS OF BULK AT MOST 1048576: true; the input reads as it did. -/
def cutVerticesUptoRow : OpenClaim := { program := "ytjjefbkbljlgdaagreatdoor", sum := "17c0b05d26dff26ef08f03e8825be1e9b680701c74161dcfdd207dca47246d2d", func := "culet/culetlaw08.CutVertices", spec := "cutVertices", inPlace := ["internal/bytealg.IndexByteString", "internal/bytealg.IndexString"], unfollowed := true, recurses := true, named := ["math/bits.overflowError", "unicode/utf8.first", "unicode/utf8.acceptRanges", "internal/bytealg.MaxLen"], apart := false, laid := [("unicode/utf8.acceptRanges", laid_unicode_utf8_acceptRanges), ("unicode/utf8.first", laid_unicode_utf8_first)], narrowed := true }
def CutVerticesUptoSaid : Prop := cutVerticesUptoRow.holds Tryz.pinned (OpenSpec.upto cutVerticesSpec)

end Rows
end Go.Proofs.YtjjefbkbljlgdaaGreatDoor
