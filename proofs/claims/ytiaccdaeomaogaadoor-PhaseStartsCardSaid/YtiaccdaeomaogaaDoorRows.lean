/-
  NARROWER THAN 'FOR EVERY INPUT', by the rows' own cells (each row's printed sentence says how): RungChecks: loops, laid · RungHolds: loops, laid · RungTurns: loops, laid · RungBehind: loops, laid · RungRises: loops, laid · RungLatches: laid · ProgScans: loops, laid · ProgStays: loops, laid · ProgDelays: laid · ProgWants: loops, laid · ProgChecks: loops, laid · ProgEnds: loops, laid · PhaseKeeps: loops, laid · PhaseAborts: loops, laid · PhaseStarts: laid · PhaseArgs: loops, laid.
  DERIVED. THE GIVEN ROWS OF THIS SEAT. 16 by the template 'for every input the law returns true; each argument reads behind the call as it read before'; 0 by the template 'total and deterministic' (their statements: YtiaccdaeomaogaaDoorTotals.lean).
  GIVEN WITH THE SEED: the statements are not yours to turn. If you find one false, say at which input.
  Laid BY PROGRAM, IN A SANDBOX (cutbox-rows.mjs): the forced cells as the released guide's own fill.sh prints them over the translation 4756d430139bc01c… (all of the seat's roots in one cut). By AI agents, Wed Nov 11 2026. No macro, syntax, notation, axiom, sorry.
-/
import Derived.Test.YtiaccdaeomaogaaDoorChecked
import GoSem.PinnedTables
import GoSem.Claim
import GoSem.ClaimJoined
import GoSem.ClaimMapViews
import Derived.JoinedTies
import Derived.KernelRfl
namespace Go.Proofs.YtiaccdaeomaogaaDoor
/- THE CELL 'sum', in the pinned program and in every row, IS THE sha256 OF THE DUMP (.gsa) THAT YtiaccdaeomaogaaDoorProg.lean LOADS. Nothing in Lean hashes anything: it is a label: what it is worth is what the hold of that sum in a sandbox is worth. -/
noncomputable def Tryd.pinned : Pinned := { name := "ytiaccdaeomaogaadoor", sum := "4756d430139bc01c878e761ad5e15fb4aa9c1782abdcf8aa0ba60d2bac53fa1e", checked := Tryd.checked }
namespace Rows
def none {H : Type} : Left H := { results := [], args := [] }

/- WHAT THE LISTED PACKAGE-LEVEL VARIABLES READ AS WHEN THE CALL BEGINS. Each datum BY PROGRAM (the guide's laid-datum.mjs) off the statement by which the dump's own 'gosem.cut.vars' lays the variable. In a bare row this is a premise. The card (YtiaccdaeomaogaaDoorCards.lean) ties it to the program's text. -/
def laid_unicode_utf8_acceptRanges {H : Type} : DataW H := .agg [.agg [.lit (.int .u8 128), .lit (.int .u8 191)], .agg [.lit (.int .u8 160), .lit (.int .u8 191)], .agg [.lit (.int .u8 128), .lit (.int .u8 159)], .agg [.lit (.int .u8 144), .lit (.int .u8 191)], .agg [.lit (.int .u8 128), .lit (.int .u8 143)], .agg [.lit (.int .u8 0), .lit (.int .u8 0)], .agg [.lit (.int .u8 0), .lit (.int .u8 0)], .agg [.lit (.int .u8 0), .lit (.int .u8 0)], .agg [.lit (.int .u8 0), .lit (.int .u8 0)], .agg [.lit (.int .u8 0), .lit (.int .u8 0)], .agg [.lit (.int .u8 0), .lit (.int .u8 0)], .agg [.lit (.int .u8 0), .lit (.int .u8 0)], .agg [.lit (.int .u8 0), .lit (.int .u8 0)], .agg [.lit (.int .u8 0), .lit (.int .u8 0)], .agg [.lit (.int .u8 0), .lit (.int .u8 0)], .agg [.lit (.int .u8 0), .lit (.int .u8 0)]]
/-- One of Go's own tables, pinned by name: the form's constant. -/
def laid_unicode_utf8_first : DataW Unit := Go.Pinned.utf8First

/-- 'malthouselaw09.RungChecks': WHATEVER THE INPUT: true; the input reads as it did. -/
def rungChecksSpec : ChangeSpec := { name := "rungChecks", fn := fun _ => fun
  | [d1, d2, d3] => { results := [.lit (.bool true)], args := [d1, d2, d3] }
  | _ => none }
def rungChecksRow : OpenClaim := { program := "ytiaccdaeomaogaadoor", sum := "4756d430139bc01c878e761ad5e15fb4aa9c1782abdcf8aa0ba60d2bac53fa1e", func := "malthouse/malthouselaw09.RungChecks", spec := "rungChecks", inPlace := ["internal/bytealg.IndexByteString"], unfollowed := true, recurses := true, named := ["unicode/utf8.first", "unicode/utf8.acceptRanges"], loops := true, apart := false, laid := [("unicode/utf8.acceptRanges", laid_unicode_utf8_acceptRanges), ("unicode/utf8.first", laid_unicode_utf8_first)] }
def RungChecksSaid : Prop := rungChecksRow.holds Tryd.pinned (OpenSpec.ofChange rungChecksSpec)

/-- ITS FALSE NEIGHBOUR: 'it returns false'. Refute it at one input. -/
def rungChecksWrong : ChangeSpec := { name := "rungChecks", fn := fun _ => fun
  | [d1, d2, d3] => { results := [.lit (.bool false)], args := [d1, d2, d3] }
  | _ => none }
def RungChecksWrongFalsely : Prop := rungChecksRow.holds Tryd.pinned (OpenSpec.ofChange rungChecksWrong)

/-- 'malthouselaw09.RungHolds': WHATEVER THE INPUT: true; the input reads as it did. -/
def rungHoldsSpec : ChangeSpec := { name := "rungHolds", fn := fun _ => fun
  | [d1, d2] => { results := [.lit (.bool true)], args := [d1, d2] }
  | _ => none }
def rungHoldsRow : OpenClaim := { program := "ytiaccdaeomaogaadoor", sum := "4756d430139bc01c878e761ad5e15fb4aa9c1782abdcf8aa0ba60d2bac53fa1e", func := "malthouse/malthouselaw09.RungHolds", spec := "rungHolds", inPlace := ["internal/bytealg.IndexByteString"], unfollowed := true, recurses := true, named := ["unicode/utf8.first", "unicode/utf8.acceptRanges"], loops := true, apart := false, laid := [("unicode/utf8.acceptRanges", laid_unicode_utf8_acceptRanges), ("unicode/utf8.first", laid_unicode_utf8_first)] }
def RungHoldsSaid : Prop := rungHoldsRow.holds Tryd.pinned (OpenSpec.ofChange rungHoldsSpec)

/-- ITS FALSE NEIGHBOUR: 'it returns false'. Refute it at one input. -/
def rungHoldsWrong : ChangeSpec := { name := "rungHolds", fn := fun _ => fun
  | [d1, d2] => { results := [.lit (.bool false)], args := [d1, d2] }
  | _ => none }
def RungHoldsWrongFalsely : Prop := rungHoldsRow.holds Tryd.pinned (OpenSpec.ofChange rungHoldsWrong)

/-- 'malthouselaw09.RungTurns': WHATEVER THE INPUT: true; the input reads as it did. -/
def rungTurnsSpec : ChangeSpec := { name := "rungTurns", fn := fun _ => fun
  | [d1, d2, d3, d4] => { results := [.lit (.bool true)], args := [d1, d2, d3, d4] }
  | _ => none }
def rungTurnsRow : OpenClaim := { program := "ytiaccdaeomaogaadoor", sum := "4756d430139bc01c878e761ad5e15fb4aa9c1782abdcf8aa0ba60d2bac53fa1e", func := "malthouse/malthouselaw09.RungTurns", spec := "rungTurns", inPlace := ["internal/bytealg.IndexByteString"], unfollowed := true, recurses := true, named := ["unicode/utf8.first", "unicode/utf8.acceptRanges"], loops := true, apart := false, laid := [("unicode/utf8.acceptRanges", laid_unicode_utf8_acceptRanges), ("unicode/utf8.first", laid_unicode_utf8_first)] }
def RungTurnsSaid : Prop := rungTurnsRow.holds Tryd.pinned (OpenSpec.ofChange rungTurnsSpec)

/-- ITS FALSE NEIGHBOUR: 'it returns false'. Refute it at one input. -/
def rungTurnsWrong : ChangeSpec := { name := "rungTurns", fn := fun _ => fun
  | [d1, d2, d3, d4] => { results := [.lit (.bool false)], args := [d1, d2, d3, d4] }
  | _ => none }
def RungTurnsWrongFalsely : Prop := rungTurnsRow.holds Tryd.pinned (OpenSpec.ofChange rungTurnsWrong)

/-- 'malthouselaw09.RungBehind': WHATEVER THE INPUT: true; the input reads as it did. -/
def rungBehindSpec : ChangeSpec := { name := "rungBehind", fn := fun _ => fun
  | [d1, d2, d3, d4] => { results := [.lit (.bool true)], args := [d1, d2, d3, d4] }
  | _ => none }
def rungBehindRow : OpenClaim := { program := "ytiaccdaeomaogaadoor", sum := "4756d430139bc01c878e761ad5e15fb4aa9c1782abdcf8aa0ba60d2bac53fa1e", func := "malthouse/malthouselaw09.RungBehind", spec := "rungBehind", inPlace := ["internal/bytealg.IndexByteString"], unfollowed := true, recurses := true, named := ["unicode/utf8.first", "unicode/utf8.acceptRanges"], loops := true, apart := false, laid := [("unicode/utf8.acceptRanges", laid_unicode_utf8_acceptRanges), ("unicode/utf8.first", laid_unicode_utf8_first)] }
def RungBehindSaid : Prop := rungBehindRow.holds Tryd.pinned (OpenSpec.ofChange rungBehindSpec)

/-- ITS FALSE NEIGHBOUR: 'it returns false'. Refute it at one input. -/
def rungBehindWrong : ChangeSpec := { name := "rungBehind", fn := fun _ => fun
  | [d1, d2, d3, d4] => { results := [.lit (.bool false)], args := [d1, d2, d3, d4] }
  | _ => none }
def RungBehindWrongFalsely : Prop := rungBehindRow.holds Tryd.pinned (OpenSpec.ofChange rungBehindWrong)

/-- 'malthouselaw09.RungRises': WHATEVER THE INPUT: true; the input reads as it did. -/
def rungRisesSpec : ChangeSpec := { name := "rungRises", fn := fun _ => fun
  | [d1, d2, d3, d4] => { results := [.lit (.bool true)], args := [d1, d2, d3, d4] }
  | _ => none }
def rungRisesRow : OpenClaim := { program := "ytiaccdaeomaogaadoor", sum := "4756d430139bc01c878e761ad5e15fb4aa9c1782abdcf8aa0ba60d2bac53fa1e", func := "malthouse/malthouselaw09.RungRises", spec := "rungRises", inPlace := ["internal/bytealg.IndexByteString"], unfollowed := true, recurses := true, named := ["unicode/utf8.first", "unicode/utf8.acceptRanges"], loops := true, apart := false, laid := [("unicode/utf8.acceptRanges", laid_unicode_utf8_acceptRanges), ("unicode/utf8.first", laid_unicode_utf8_first)] }
def RungRisesSaid : Prop := rungRisesRow.holds Tryd.pinned (OpenSpec.ofChange rungRisesSpec)

/-- ITS FALSE NEIGHBOUR: 'it returns false'. Refute it at one input. -/
def rungRisesWrong : ChangeSpec := { name := "rungRises", fn := fun _ => fun
  | [d1, d2, d3, d4] => { results := [.lit (.bool false)], args := [d1, d2, d3, d4] }
  | _ => none }
def RungRisesWrongFalsely : Prop := rungRisesRow.holds Tryd.pinned (OpenSpec.ofChange rungRisesWrong)

/-- 'malthouselaw09.RungLatches': WHATEVER THE INPUT: true; the input reads as it did. -/
def rungLatchesSpec : ChangeSpec := { name := "rungLatches", fn := fun _ => fun
  | [d1, d2, d3] => { results := [.lit (.bool true)], args := [d1, d2, d3] }
  | _ => none }
def rungLatchesRow : OpenClaim := { program := "ytiaccdaeomaogaadoor", sum := "4756d430139bc01c878e761ad5e15fb4aa9c1782abdcf8aa0ba60d2bac53fa1e", func := "malthouse/malthouselaw09.RungLatches", spec := "rungLatches", inPlace := ["internal/bytealg.IndexByteString"], unfollowed := true, recurses := true, named := ["unicode/utf8.first", "unicode/utf8.acceptRanges"], apart := false, laid := [("unicode/utf8.acceptRanges", laid_unicode_utf8_acceptRanges), ("unicode/utf8.first", laid_unicode_utf8_first)] }
def RungLatchesSaid : Prop := rungLatchesRow.holds Tryd.pinned (OpenSpec.ofChange rungLatchesSpec)

/-- ITS FALSE NEIGHBOUR: 'it returns false'. Refute it at one input. -/
def rungLatchesWrong : ChangeSpec := { name := "rungLatches", fn := fun _ => fun
  | [d1, d2, d3] => { results := [.lit (.bool false)], args := [d1, d2, d3] }
  | _ => none }
def RungLatchesWrongFalsely : Prop := rungLatchesRow.holds Tryd.pinned (OpenSpec.ofChange rungLatchesWrong)

/-- 'malthouselaw11.ProgScans': WHATEVER THE INPUT: true; the input reads as it did. -/
def progScansSpec : ChangeSpec := { name := "progScans", fn := fun _ => fun
  | [d1, d2, d3] => { results := [.lit (.bool true)], args := [d1, d2, d3] }
  | _ => none }
def progScansRow : OpenClaim := { program := "ytiaccdaeomaogaadoor", sum := "4756d430139bc01c878e761ad5e15fb4aa9c1782abdcf8aa0ba60d2bac53fa1e", func := "malthouse/malthouselaw11.ProgScans", spec := "progScans", inPlace := ["internal/bytealg.IndexByteString"], unfollowed := true, recurses := true, named := ["unicode/utf8.first", "unicode/utf8.acceptRanges"], loops := true, apart := false, laid := [("unicode/utf8.acceptRanges", laid_unicode_utf8_acceptRanges), ("unicode/utf8.first", laid_unicode_utf8_first)] }
def ProgScansSaid : Prop := progScansRow.holds Tryd.pinned (OpenSpec.ofChange progScansSpec)

/-- ITS FALSE NEIGHBOUR: 'it returns false'. Refute it at one input. -/
def progScansWrong : ChangeSpec := { name := "progScans", fn := fun _ => fun
  | [d1, d2, d3] => { results := [.lit (.bool false)], args := [d1, d2, d3] }
  | _ => none }
def ProgScansWrongFalsely : Prop := progScansRow.holds Tryd.pinned (OpenSpec.ofChange progScansWrong)

/-- 'malthouselaw11.ProgStays': WHATEVER THE INPUT: true; the input reads as it did. -/
def progStaysSpec : ChangeSpec := { name := "progStays", fn := fun _ => fun
  | [d1, d2, d3, d4] => { results := [.lit (.bool true)], args := [d1, d2, d3, d4] }
  | _ => none }
def progStaysRow : OpenClaim := { program := "ytiaccdaeomaogaadoor", sum := "4756d430139bc01c878e761ad5e15fb4aa9c1782abdcf8aa0ba60d2bac53fa1e", func := "malthouse/malthouselaw11.ProgStays", spec := "progStays", inPlace := ["internal/bytealg.IndexByteString"], unfollowed := true, recurses := true, named := ["unicode/utf8.first", "unicode/utf8.acceptRanges"], loops := true, apart := false, laid := [("unicode/utf8.acceptRanges", laid_unicode_utf8_acceptRanges), ("unicode/utf8.first", laid_unicode_utf8_first)] }
def ProgStaysSaid : Prop := progStaysRow.holds Tryd.pinned (OpenSpec.ofChange progStaysSpec)

/-- ITS FALSE NEIGHBOUR: 'it returns false'. Refute it at one input. -/
def progStaysWrong : ChangeSpec := { name := "progStays", fn := fun _ => fun
  | [d1, d2, d3, d4] => { results := [.lit (.bool false)], args := [d1, d2, d3, d4] }
  | _ => none }
def ProgStaysWrongFalsely : Prop := progStaysRow.holds Tryd.pinned (OpenSpec.ofChange progStaysWrong)

/-- 'malthouselaw11.ProgDelays': WHATEVER THE INPUT: true; the input reads as it did. -/
def progDelaysSpec : ChangeSpec := { name := "progDelays", fn := fun _ => fun
  | [d1, d2] => { results := [.lit (.bool true)], args := [d1, d2] }
  | _ => none }
def progDelaysRow : OpenClaim := { program := "ytiaccdaeomaogaadoor", sum := "4756d430139bc01c878e761ad5e15fb4aa9c1782abdcf8aa0ba60d2bac53fa1e", func := "malthouse/malthouselaw11.ProgDelays", spec := "progDelays", inPlace := ["internal/bytealg.IndexByteString"], unfollowed := true, recurses := true, named := ["unicode/utf8.first", "unicode/utf8.acceptRanges"], apart := false, laid := [("unicode/utf8.acceptRanges", laid_unicode_utf8_acceptRanges), ("unicode/utf8.first", laid_unicode_utf8_first)] }
def ProgDelaysSaid : Prop := progDelaysRow.holds Tryd.pinned (OpenSpec.ofChange progDelaysSpec)

/-- ITS FALSE NEIGHBOUR: 'it returns false'. Refute it at one input. -/
def progDelaysWrong : ChangeSpec := { name := "progDelays", fn := fun _ => fun
  | [d1, d2] => { results := [.lit (.bool false)], args := [d1, d2] }
  | _ => none }
def ProgDelaysWrongFalsely : Prop := progDelaysRow.holds Tryd.pinned (OpenSpec.ofChange progDelaysWrong)

/-- 'malthouselaw11.ProgWants': WHATEVER THE INPUT: true; the input reads as it did. -/
def progWantsSpec : ChangeSpec := { name := "progWants", fn := fun _ => fun
  | [d1, d2] => { results := [.lit (.bool true)], args := [d1, d2] }
  | _ => none }
def progWantsRow : OpenClaim := { program := "ytiaccdaeomaogaadoor", sum := "4756d430139bc01c878e761ad5e15fb4aa9c1782abdcf8aa0ba60d2bac53fa1e", func := "malthouse/malthouselaw11.ProgWants", spec := "progWants", inPlace := ["internal/bytealg.IndexByteString"], unfollowed := true, recurses := true, named := ["unicode/utf8.first", "unicode/utf8.acceptRanges"], loops := true, apart := false, laid := [("unicode/utf8.acceptRanges", laid_unicode_utf8_acceptRanges), ("unicode/utf8.first", laid_unicode_utf8_first)] }
def ProgWantsSaid : Prop := progWantsRow.holds Tryd.pinned (OpenSpec.ofChange progWantsSpec)

/-- ITS FALSE NEIGHBOUR: 'it returns false'. Refute it at one input. -/
def progWantsWrong : ChangeSpec := { name := "progWants", fn := fun _ => fun
  | [d1, d2] => { results := [.lit (.bool false)], args := [d1, d2] }
  | _ => none }
def ProgWantsWrongFalsely : Prop := progWantsRow.holds Tryd.pinned (OpenSpec.ofChange progWantsWrong)

/-- 'malthouselaw11.ProgChecks': WHATEVER THE INPUT: true; the input reads as it did. -/
def progChecksSpec : ChangeSpec := { name := "progChecks", fn := fun _ => fun
  | [d1, d2] => { results := [.lit (.bool true)], args := [d1, d2] }
  | _ => none }
def progChecksRow : OpenClaim := { program := "ytiaccdaeomaogaadoor", sum := "4756d430139bc01c878e761ad5e15fb4aa9c1782abdcf8aa0ba60d2bac53fa1e", func := "malthouse/malthouselaw11.ProgChecks", spec := "progChecks", inPlace := ["internal/bytealg.IndexByteString"], unfollowed := true, recurses := true, named := ["unicode/utf8.first", "unicode/utf8.acceptRanges"], loops := true, apart := false, laid := [("unicode/utf8.acceptRanges", laid_unicode_utf8_acceptRanges), ("unicode/utf8.first", laid_unicode_utf8_first)] }
def ProgChecksSaid : Prop := progChecksRow.holds Tryd.pinned (OpenSpec.ofChange progChecksSpec)

/-- ITS FALSE NEIGHBOUR: 'it returns false'. Refute it at one input. -/
def progChecksWrong : ChangeSpec := { name := "progChecks", fn := fun _ => fun
  | [d1, d2] => { results := [.lit (.bool false)], args := [d1, d2] }
  | _ => none }
def ProgChecksWrongFalsely : Prop := progChecksRow.holds Tryd.pinned (OpenSpec.ofChange progChecksWrong)

/-- 'malthouselaw11.ProgEnds': WHATEVER THE INPUT: true; the input reads as it did. -/
def progEndsSpec : ChangeSpec := { name := "progEnds", fn := fun _ => fun
  | [d1, d2] => { results := [.lit (.bool true)], args := [d1, d2] }
  | _ => none }
def progEndsRow : OpenClaim := { program := "ytiaccdaeomaogaadoor", sum := "4756d430139bc01c878e761ad5e15fb4aa9c1782abdcf8aa0ba60d2bac53fa1e", func := "malthouse/malthouselaw11.ProgEnds", spec := "progEnds", inPlace := ["internal/bytealg.IndexByteString"], unfollowed := true, recurses := true, named := ["unicode/utf8.first", "unicode/utf8.acceptRanges"], loops := true, apart := false, laid := [("unicode/utf8.acceptRanges", laid_unicode_utf8_acceptRanges), ("unicode/utf8.first", laid_unicode_utf8_first)] }
def ProgEndsSaid : Prop := progEndsRow.holds Tryd.pinned (OpenSpec.ofChange progEndsSpec)

/-- ITS FALSE NEIGHBOUR: 'it returns false'. Refute it at one input. -/
def progEndsWrong : ChangeSpec := { name := "progEnds", fn := fun _ => fun
  | [d1, d2] => { results := [.lit (.bool false)], args := [d1, d2] }
  | _ => none }
def ProgEndsWrongFalsely : Prop := progEndsRow.holds Tryd.pinned (OpenSpec.ofChange progEndsWrong)

/-- 'malthouselaw12.PhaseKeeps': WHATEVER THE INPUT: true; the input reads as it did. -/
def phaseKeepsSpec : ChangeSpec := { name := "phaseKeeps", fn := fun _ => fun
  | [d1, d2, d3, d4] => { results := [.lit (.bool true)], args := [d1, d2, d3, d4] }
  | _ => none }
def phaseKeepsRow : OpenClaim := { program := "ytiaccdaeomaogaadoor", sum := "4756d430139bc01c878e761ad5e15fb4aa9c1782abdcf8aa0ba60d2bac53fa1e", func := "malthouse/malthouselaw12.PhaseKeeps", spec := "phaseKeeps", inPlace := ["internal/bytealg.IndexByteString"], unfollowed := true, recurses := true, named := ["unicode/utf8.first", "unicode/utf8.acceptRanges"], loops := true, apart := false, laid := [("unicode/utf8.acceptRanges", laid_unicode_utf8_acceptRanges), ("unicode/utf8.first", laid_unicode_utf8_first)] }
def PhaseKeepsSaid : Prop := phaseKeepsRow.holds Tryd.pinned (OpenSpec.ofChange phaseKeepsSpec)

/-- ITS FALSE NEIGHBOUR: 'it returns false'. Refute it at one input. -/
def phaseKeepsWrong : ChangeSpec := { name := "phaseKeeps", fn := fun _ => fun
  | [d1, d2, d3, d4] => { results := [.lit (.bool false)], args := [d1, d2, d3, d4] }
  | _ => none }
def PhaseKeepsWrongFalsely : Prop := phaseKeepsRow.holds Tryd.pinned (OpenSpec.ofChange phaseKeepsWrong)

/-- 'malthouselaw12.PhaseAborts': WHATEVER THE INPUT: true; the input reads as it did. -/
def phaseAbortsSpec : ChangeSpec := { name := "phaseAborts", fn := fun _ => fun
  | [d1, d2, d3] => { results := [.lit (.bool true)], args := [d1, d2, d3] }
  | _ => none }
def phaseAbortsRow : OpenClaim := { program := "ytiaccdaeomaogaadoor", sum := "4756d430139bc01c878e761ad5e15fb4aa9c1782abdcf8aa0ba60d2bac53fa1e", func := "malthouse/malthouselaw12.PhaseAborts", spec := "phaseAborts", inPlace := ["internal/bytealg.IndexByteString"], unfollowed := true, recurses := true, named := ["unicode/utf8.first", "unicode/utf8.acceptRanges"], loops := true, apart := false, laid := [("unicode/utf8.acceptRanges", laid_unicode_utf8_acceptRanges), ("unicode/utf8.first", laid_unicode_utf8_first)] }
def PhaseAbortsSaid : Prop := phaseAbortsRow.holds Tryd.pinned (OpenSpec.ofChange phaseAbortsSpec)

/-- ITS FALSE NEIGHBOUR: 'it returns false'. Refute it at one input. -/
def phaseAbortsWrong : ChangeSpec := { name := "phaseAborts", fn := fun _ => fun
  | [d1, d2, d3] => { results := [.lit (.bool false)], args := [d1, d2, d3] }
  | _ => none }
def PhaseAbortsWrongFalsely : Prop := phaseAbortsRow.holds Tryd.pinned (OpenSpec.ofChange phaseAbortsWrong)

/-- 'malthouselaw12.PhaseStarts': WHATEVER THE INPUT: true; the input reads as it did. -/
def phaseStartsSpec : ChangeSpec := { name := "phaseStarts", fn := fun _ => fun
  | [d1, d2] => { results := [.lit (.bool true)], args := [d1, d2] }
  | _ => none }
def phaseStartsRow : OpenClaim := { program := "ytiaccdaeomaogaadoor", sum := "4756d430139bc01c878e761ad5e15fb4aa9c1782abdcf8aa0ba60d2bac53fa1e", func := "malthouse/malthouselaw12.PhaseStarts", spec := "phaseStarts", inPlace := ["internal/bytealg.IndexByteString"], unfollowed := true, recurses := true, named := ["unicode/utf8.first", "unicode/utf8.acceptRanges"], apart := false, laid := [("unicode/utf8.acceptRanges", laid_unicode_utf8_acceptRanges), ("unicode/utf8.first", laid_unicode_utf8_first)] }
def PhaseStartsSaid : Prop := phaseStartsRow.holds Tryd.pinned (OpenSpec.ofChange phaseStartsSpec)

/-- ITS FALSE NEIGHBOUR: 'it returns false'. Refute it at one input. -/
def phaseStartsWrong : ChangeSpec := { name := "phaseStarts", fn := fun _ => fun
  | [d1, d2] => { results := [.lit (.bool false)], args := [d1, d2] }
  | _ => none }
def PhaseStartsWrongFalsely : Prop := phaseStartsRow.holds Tryd.pinned (OpenSpec.ofChange phaseStartsWrong)

/-- 'malthouselaw12.PhaseArgs': WHATEVER THE INPUT: true; the input reads as it did. -/
def phaseArgsSpec : ChangeSpec := { name := "phaseArgs", fn := fun _ => fun
  | [d1, d2, d3, d4] => { results := [.lit (.bool true)], args := [d1, d2, d3, d4] }
  | _ => none }
def phaseArgsRow : OpenClaim := { program := "ytiaccdaeomaogaadoor", sum := "4756d430139bc01c878e761ad5e15fb4aa9c1782abdcf8aa0ba60d2bac53fa1e", func := "malthouse/malthouselaw12.PhaseArgs", spec := "phaseArgs", inPlace := ["internal/bytealg.IndexByteString"], unfollowed := true, recurses := true, named := ["unicode/utf8.first", "unicode/utf8.acceptRanges"], loops := true, apart := false, laid := [("unicode/utf8.acceptRanges", laid_unicode_utf8_acceptRanges), ("unicode/utf8.first", laid_unicode_utf8_first)] }
def PhaseArgsSaid : Prop := phaseArgsRow.holds Tryd.pinned (OpenSpec.ofChange phaseArgsSpec)

/-- ITS FALSE NEIGHBOUR: 'it returns false'. Refute it at one input. -/
def phaseArgsWrong : ChangeSpec := { name := "phaseArgs", fn := fun _ => fun
  | [d1, d2, d3, d4] => { results := [.lit (.bool false)], args := [d1, d2, d3, d4] }
  | _ => none }
def PhaseArgsWrongFalsely : Prop := phaseArgsRow.holds Tryd.pinned (OpenSpec.ofChange phaseArgsWrong)

/- THE SECOND FORM. 'bulk': how many values and letters a reading holds, each counted each time it is reached (what is shared counts as often as it is met; a slice's spare places count too). A statement '..UptoSaid' is the law's where the arguments, and the package variables that the reading takes, are together of bulk at most 1048576: NARROWER than '..Said'. Prove '..Said' where nothing that the law and all that it calls make is longer than what came in: it says more and counts as full. Else prove '..UptoSaid'. A law counts once. -/
mutual
def uptoBulk {H : Type} : DataW H → Nat
  | .lit (.string bytes) => bytes.length + 1
  | .lit _ => 1
  | .nil => 1
  | .ptr d => uptoBulk d + 1
  | .slice elems spare => uptoBulkAll elems + uptoBulkAll spare + 1
  | .agg parts => uptoBulkAll parts + 1
  | .iface _ d => uptoBulk d + 1
  | .map entries => uptoBulkEntries entries + 1
  | .held _ => 1
def uptoBulkAll {H : Type} : List (DataW H) → Nat
  | [] => 0
  | d :: r => uptoBulk d + uptoBulkAll r
def uptoBulkEntries {H : Type} : List (Lit × DataW H) → Nat
  | [] => 0
  | x :: r => uptoBulkEntry x + uptoBulkEntries r
def uptoBulkEntry {H : Type} : Lit × DataW H → Nat
  | (.string bytes, d) => bytes.length + uptoBulk d + 1
  | (_, d) => uptoBulk d + 1
 end
def uptoSmall : (H : Type) → List (DataW H) → Bool := fun _ ds => decide (uptoBulkAll ds ≤ 1048576)
def OpenSpec.upto (s : _root_.Go.ChangeSpec) : _root_.Go.OpenSpec := { _root_.Go.OpenSpec.ofChange s with cond := some uptoSmall }

/-- 'malthouselaw09.RungChecks', WHERE WHAT IT READS IS OF BULK AT MOST 1048576: true; the input reads as it did. -/
def rungChecksUptoRow : OpenClaim := { program := "ytiaccdaeomaogaadoor", sum := "4756d430139bc01c878e761ad5e15fb4aa9c1782abdcf8aa0ba60d2bac53fa1e", func := "malthouse/malthouselaw09.RungChecks", spec := "rungChecks", inPlace := ["internal/bytealg.IndexByteString"], unfollowed := true, recurses := true, named := ["unicode/utf8.first", "unicode/utf8.acceptRanges"], loops := true, apart := false, laid := [("unicode/utf8.acceptRanges", laid_unicode_utf8_acceptRanges), ("unicode/utf8.first", laid_unicode_utf8_first)], narrowed := true }
def RungChecksUptoSaid : Prop := rungChecksUptoRow.holds Tryd.pinned (OpenSpec.upto rungChecksSpec)

/-- 'malthouselaw09.RungHolds', WHERE WHAT IT READS IS OF BULK AT MOST 1048576: true; the input reads as it did. -/
def rungHoldsUptoRow : OpenClaim := { program := "ytiaccdaeomaogaadoor", sum := "4756d430139bc01c878e761ad5e15fb4aa9c1782abdcf8aa0ba60d2bac53fa1e", func := "malthouse/malthouselaw09.RungHolds", spec := "rungHolds", inPlace := ["internal/bytealg.IndexByteString"], unfollowed := true, recurses := true, named := ["unicode/utf8.first", "unicode/utf8.acceptRanges"], loops := true, apart := false, laid := [("unicode/utf8.acceptRanges", laid_unicode_utf8_acceptRanges), ("unicode/utf8.first", laid_unicode_utf8_first)], narrowed := true }
def RungHoldsUptoSaid : Prop := rungHoldsUptoRow.holds Tryd.pinned (OpenSpec.upto rungHoldsSpec)

/-- 'malthouselaw09.RungTurns', WHERE WHAT IT READS IS OF BULK AT MOST 1048576: true; the input reads as it did. -/
def rungTurnsUptoRow : OpenClaim := { program := "ytiaccdaeomaogaadoor", sum := "4756d430139bc01c878e761ad5e15fb4aa9c1782abdcf8aa0ba60d2bac53fa1e", func := "malthouse/malthouselaw09.RungTurns", spec := "rungTurns", inPlace := ["internal/bytealg.IndexByteString"], unfollowed := true, recurses := true, named := ["unicode/utf8.first", "unicode/utf8.acceptRanges"], loops := true, apart := false, laid := [("unicode/utf8.acceptRanges", laid_unicode_utf8_acceptRanges), ("unicode/utf8.first", laid_unicode_utf8_first)], narrowed := true }
def RungTurnsUptoSaid : Prop := rungTurnsUptoRow.holds Tryd.pinned (OpenSpec.upto rungTurnsSpec)

/-- 'malthouselaw09.RungBehind', WHERE WHAT IT READS IS OF BULK AT MOST 1048576: true; the input reads as it did. -/
def rungBehindUptoRow : OpenClaim := { program := "ytiaccdaeomaogaadoor", sum := "4756d430139bc01c878e761ad5e15fb4aa9c1782abdcf8aa0ba60d2bac53fa1e", func := "malthouse/malthouselaw09.RungBehind", spec := "rungBehind", inPlace := ["internal/bytealg.IndexByteString"], unfollowed := true, recurses := true, named := ["unicode/utf8.first", "unicode/utf8.acceptRanges"], loops := true, apart := false, laid := [("unicode/utf8.acceptRanges", laid_unicode_utf8_acceptRanges), ("unicode/utf8.first", laid_unicode_utf8_first)], narrowed := true }
def RungBehindUptoSaid : Prop := rungBehindUptoRow.holds Tryd.pinned (OpenSpec.upto rungBehindSpec)

/-- 'malthouselaw09.RungRises', WHERE WHAT IT READS IS OF BULK AT MOST 1048576: true; the input reads as it did. -/
def rungRisesUptoRow : OpenClaim := { program := "ytiaccdaeomaogaadoor", sum := "4756d430139bc01c878e761ad5e15fb4aa9c1782abdcf8aa0ba60d2bac53fa1e", func := "malthouse/malthouselaw09.RungRises", spec := "rungRises", inPlace := ["internal/bytealg.IndexByteString"], unfollowed := true, recurses := true, named := ["unicode/utf8.first", "unicode/utf8.acceptRanges"], loops := true, apart := false, laid := [("unicode/utf8.acceptRanges", laid_unicode_utf8_acceptRanges), ("unicode/utf8.first", laid_unicode_utf8_first)], narrowed := true }
def RungRisesUptoSaid : Prop := rungRisesUptoRow.holds Tryd.pinned (OpenSpec.upto rungRisesSpec)

/-- 'malthouselaw09.RungLatches', WHERE WHAT IT READS IS OF BULK AT MOST 1048576: true; the input reads as it did. -/
def rungLatchesUptoRow : OpenClaim := { program := "ytiaccdaeomaogaadoor", sum := "4756d430139bc01c878e761ad5e15fb4aa9c1782abdcf8aa0ba60d2bac53fa1e", func := "malthouse/malthouselaw09.RungLatches", spec := "rungLatches", inPlace := ["internal/bytealg.IndexByteString"], unfollowed := true, recurses := true, named := ["unicode/utf8.first", "unicode/utf8.acceptRanges"], apart := false, laid := [("unicode/utf8.acceptRanges", laid_unicode_utf8_acceptRanges), ("unicode/utf8.first", laid_unicode_utf8_first)], narrowed := true }
def RungLatchesUptoSaid : Prop := rungLatchesUptoRow.holds Tryd.pinned (OpenSpec.upto rungLatchesSpec)

/-- 'malthouselaw11.ProgScans', WHERE WHAT IT READS IS OF BULK AT MOST 1048576: true; the input reads as it did. -/
def progScansUptoRow : OpenClaim := { program := "ytiaccdaeomaogaadoor", sum := "4756d430139bc01c878e761ad5e15fb4aa9c1782abdcf8aa0ba60d2bac53fa1e", func := "malthouse/malthouselaw11.ProgScans", spec := "progScans", inPlace := ["internal/bytealg.IndexByteString"], unfollowed := true, recurses := true, named := ["unicode/utf8.first", "unicode/utf8.acceptRanges"], loops := true, apart := false, laid := [("unicode/utf8.acceptRanges", laid_unicode_utf8_acceptRanges), ("unicode/utf8.first", laid_unicode_utf8_first)], narrowed := true }
def ProgScansUptoSaid : Prop := progScansUptoRow.holds Tryd.pinned (OpenSpec.upto progScansSpec)

/-- 'malthouselaw11.ProgStays', WHERE WHAT IT READS IS OF BULK AT MOST 1048576: true; the input reads as it did. -/
def progStaysUptoRow : OpenClaim := { program := "ytiaccdaeomaogaadoor", sum := "4756d430139bc01c878e761ad5e15fb4aa9c1782abdcf8aa0ba60d2bac53fa1e", func := "malthouse/malthouselaw11.ProgStays", spec := "progStays", inPlace := ["internal/bytealg.IndexByteString"], unfollowed := true, recurses := true, named := ["unicode/utf8.first", "unicode/utf8.acceptRanges"], loops := true, apart := false, laid := [("unicode/utf8.acceptRanges", laid_unicode_utf8_acceptRanges), ("unicode/utf8.first", laid_unicode_utf8_first)], narrowed := true }
def ProgStaysUptoSaid : Prop := progStaysUptoRow.holds Tryd.pinned (OpenSpec.upto progStaysSpec)

/-- 'malthouselaw11.ProgDelays', WHERE WHAT IT READS IS OF BULK AT MOST 1048576: true; the input reads as it did. -/
def progDelaysUptoRow : OpenClaim := { program := "ytiaccdaeomaogaadoor", sum := "4756d430139bc01c878e761ad5e15fb4aa9c1782abdcf8aa0ba60d2bac53fa1e", func := "malthouse/malthouselaw11.ProgDelays", spec := "progDelays", inPlace := ["internal/bytealg.IndexByteString"], unfollowed := true, recurses := true, named := ["unicode/utf8.first", "unicode/utf8.acceptRanges"], apart := false, laid := [("unicode/utf8.acceptRanges", laid_unicode_utf8_acceptRanges), ("unicode/utf8.first", laid_unicode_utf8_first)], narrowed := true }
def ProgDelaysUptoSaid : Prop := progDelaysUptoRow.holds Tryd.pinned (OpenSpec.upto progDelaysSpec)

/-- 'malthouselaw11.ProgWants', WHERE WHAT IT READS IS OF BULK AT MOST 1048576: true; the input reads as it did. -/
def progWantsUptoRow : OpenClaim := { program := "ytiaccdaeomaogaadoor", sum := "4756d430139bc01c878e761ad5e15fb4aa9c1782abdcf8aa0ba60d2bac53fa1e", func := "malthouse/malthouselaw11.ProgWants", spec := "progWants", inPlace := ["internal/bytealg.IndexByteString"], unfollowed := true, recurses := true, named := ["unicode/utf8.first", "unicode/utf8.acceptRanges"], loops := true, apart := false, laid := [("unicode/utf8.acceptRanges", laid_unicode_utf8_acceptRanges), ("unicode/utf8.first", laid_unicode_utf8_first)], narrowed := true }
def ProgWantsUptoSaid : Prop := progWantsUptoRow.holds Tryd.pinned (OpenSpec.upto progWantsSpec)

/-- 'malthouselaw11.ProgChecks', WHERE WHAT IT READS IS OF BULK AT MOST 1048576: true; the input reads as it did. -/
def progChecksUptoRow : OpenClaim := { program := "ytiaccdaeomaogaadoor", sum := "4756d430139bc01c878e761ad5e15fb4aa9c1782abdcf8aa0ba60d2bac53fa1e", func := "malthouse/malthouselaw11.ProgChecks", spec := "progChecks", inPlace := ["internal/bytealg.IndexByteString"], unfollowed := true, recurses := true, named := ["unicode/utf8.first", "unicode/utf8.acceptRanges"], loops := true, apart := false, laid := [("unicode/utf8.acceptRanges", laid_unicode_utf8_acceptRanges), ("unicode/utf8.first", laid_unicode_utf8_first)], narrowed := true }
def ProgChecksUptoSaid : Prop := progChecksUptoRow.holds Tryd.pinned (OpenSpec.upto progChecksSpec)

/-- 'malthouselaw11.ProgEnds', WHERE WHAT IT READS IS OF BULK AT MOST 1048576: true; the input reads as it did. -/
def progEndsUptoRow : OpenClaim := { program := "ytiaccdaeomaogaadoor", sum := "4756d430139bc01c878e761ad5e15fb4aa9c1782abdcf8aa0ba60d2bac53fa1e", func := "malthouse/malthouselaw11.ProgEnds", spec := "progEnds", inPlace := ["internal/bytealg.IndexByteString"], unfollowed := true, recurses := true, named := ["unicode/utf8.first", "unicode/utf8.acceptRanges"], loops := true, apart := false, laid := [("unicode/utf8.acceptRanges", laid_unicode_utf8_acceptRanges), ("unicode/utf8.first", laid_unicode_utf8_first)], narrowed := true }
def ProgEndsUptoSaid : Prop := progEndsUptoRow.holds Tryd.pinned (OpenSpec.upto progEndsSpec)

/-- 'malthouselaw12.PhaseKeeps', WHERE WHAT IT READS IS OF BULK AT MOST 1048576: true; the input reads as it did. -/
def phaseKeepsUptoRow : OpenClaim := { program := "ytiaccdaeomaogaadoor", sum := "4756d430139bc01c878e761ad5e15fb4aa9c1782abdcf8aa0ba60d2bac53fa1e", func := "malthouse/malthouselaw12.PhaseKeeps", spec := "phaseKeeps", inPlace := ["internal/bytealg.IndexByteString"], unfollowed := true, recurses := true, named := ["unicode/utf8.first", "unicode/utf8.acceptRanges"], loops := true, apart := false, laid := [("unicode/utf8.acceptRanges", laid_unicode_utf8_acceptRanges), ("unicode/utf8.first", laid_unicode_utf8_first)], narrowed := true }
def PhaseKeepsUptoSaid : Prop := phaseKeepsUptoRow.holds Tryd.pinned (OpenSpec.upto phaseKeepsSpec)

/-- 'malthouselaw12.PhaseAborts', WHERE WHAT IT READS IS OF BULK AT MOST 1048576: true; the input reads as it did. -/
def phaseAbortsUptoRow : OpenClaim := { program := "ytiaccdaeomaogaadoor", sum := "4756d430139bc01c878e761ad5e15fb4aa9c1782abdcf8aa0ba60d2bac53fa1e", func := "malthouse/malthouselaw12.PhaseAborts", spec := "phaseAborts", inPlace := ["internal/bytealg.IndexByteString"], unfollowed := true, recurses := true, named := ["unicode/utf8.first", "unicode/utf8.acceptRanges"], loops := true, apart := false, laid := [("unicode/utf8.acceptRanges", laid_unicode_utf8_acceptRanges), ("unicode/utf8.first", laid_unicode_utf8_first)], narrowed := true }
def PhaseAbortsUptoSaid : Prop := phaseAbortsUptoRow.holds Tryd.pinned (OpenSpec.upto phaseAbortsSpec)

/-- 'malthouselaw12.PhaseStarts', WHERE WHAT IT READS IS OF BULK AT MOST 1048576: true; the input reads as it did. -/
def phaseStartsUptoRow : OpenClaim := { program := "ytiaccdaeomaogaadoor", sum := "4756d430139bc01c878e761ad5e15fb4aa9c1782abdcf8aa0ba60d2bac53fa1e", func := "malthouse/malthouselaw12.PhaseStarts", spec := "phaseStarts", inPlace := ["internal/bytealg.IndexByteString"], unfollowed := true, recurses := true, named := ["unicode/utf8.first", "unicode/utf8.acceptRanges"], apart := false, laid := [("unicode/utf8.acceptRanges", laid_unicode_utf8_acceptRanges), ("unicode/utf8.first", laid_unicode_utf8_first)], narrowed := true }
def PhaseStartsUptoSaid : Prop := phaseStartsUptoRow.holds Tryd.pinned (OpenSpec.upto phaseStartsSpec)

/-- 'malthouselaw12.PhaseArgs', WHERE WHAT IT READS IS OF BULK AT MOST 1048576: true; the input reads as it did. -/
def phaseArgsUptoRow : OpenClaim := { program := "ytiaccdaeomaogaadoor", sum := "4756d430139bc01c878e761ad5e15fb4aa9c1782abdcf8aa0ba60d2bac53fa1e", func := "malthouse/malthouselaw12.PhaseArgs", spec := "phaseArgs", inPlace := ["internal/bytealg.IndexByteString"], unfollowed := true, recurses := true, named := ["unicode/utf8.first", "unicode/utf8.acceptRanges"], loops := true, apart := false, laid := [("unicode/utf8.acceptRanges", laid_unicode_utf8_acceptRanges), ("unicode/utf8.first", laid_unicode_utf8_first)], narrowed := true }
def PhaseArgsUptoSaid : Prop := phaseArgsUptoRow.holds Tryd.pinned (OpenSpec.upto phaseArgsSpec)

end Rows
end Go.Proofs.YtiaccdaeomaogaaDoor
