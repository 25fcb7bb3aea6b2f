/-
  No cell of these rows narrows 'for every input' (looked for: loops, veiled, ifaces, maps, wideKeys, modest, calm, conditions, laid).
  DERIVED. THE GIVEN ROWS OF THIS SEAT. 17 by the template 'for every input the law returns true; each argument reads behind the call as it read before'; 0 by the template 'total and deterministic' (their statements: YtilbolgncpfmmaaTotals.lean).
  GIVEN WITH THE SEED: the statements are not yours to turn. If you find one false, say at which input.
  Laid BY PROGRAM, IN A SANDBOX (cutbox-rows.mjs): the forced cells as the released guide's own fill.sh prints them over the translation 44ddf1edb99a5bba… (all of the seat's roots in one cut). By AI agents, Wed Nov 11 2026. No macro, syntax, notation, axiom, sorry.
-/
import Derived.Test.YtilbolgncpfmmaaChecked
import GoSem.Claim
import GoSem.ClaimJoined
import GoSem.ClaimMapViews
import Derived.JoinedTies
import Derived.KernelRfl
namespace Go.Proofs.Ytilbolgncpfmmaa
/- THE CELL 'sum', in the pinned program and in every row, IS THE sha256 OF THE DUMP (.gsa) THAT YtilbolgncpfmmaaProg.lean LOADS. Nothing in Lean hashes anything: it is a label: what it is worth is what the hold of that sum in a sandbox is worth. -/
noncomputable def Try.pinned : Pinned := { name := "ytilbolgncpfmmaa", sum := "44ddf1edb99a5bba93e45d592de44ebb3f132599777a32ab45ae006492ea305a", checked := Try.checked }
namespace Rows
def none {H : Type} : Left H := { results := [], args := [] }

/-- 'tranchelaw07.CalendarSteps': WHATEVER THE INPUT: true; the input reads as it did. -/
def calendarStepsSpec : ChangeSpec := { name := "calendarSteps", fn := fun _ => fun
  | [d1, d2, d3, d4] => { results := [.lit (.bool true)], args := [d1, d2, d3, d4] }
  | _ => none }
def calendarStepsRow : OpenClaim := { program := "ytilbolgncpfmmaa", sum := "44ddf1edb99a5bba93e45d592de44ebb3f132599777a32ab45ae006492ea305a", func := "tranche/tranchelaw07.CalendarSteps", spec := "calendarSteps", unfollowed := true, recurses := true, apart := false }
def CalendarStepsSaid : Prop := calendarStepsRow.holds Try.pinned (OpenSpec.ofChange calendarStepsSpec)

/-- ITS FALSE NEIGHBOUR: 'it returns false'. Refute it at one input. -/
def calendarStepsWrong : ChangeSpec := { name := "calendarSteps", fn := fun _ => fun
  | [d1, d2, d3, d4] => { results := [.lit (.bool false)], args := [d1, d2, d3, d4] }
  | _ => none }
def CalendarStepsWrongFalsely : Prop := calendarStepsRow.holds Try.pinned (OpenSpec.ofChange calendarStepsWrong)

/-- 'tranchelaw07.CalendarAdds': WHATEVER THE INPUT: true; the input reads as it did. -/
def calendarAddsSpec : ChangeSpec := { name := "calendarAdds", fn := fun _ => fun
  | [d1, d2, d3] => { results := [.lit (.bool true)], args := [d1, d2, d3] }
  | _ => none }
def calendarAddsRow : OpenClaim := { program := "ytilbolgncpfmmaa", sum := "44ddf1edb99a5bba93e45d592de44ebb3f132599777a32ab45ae006492ea305a", func := "tranche/tranchelaw07.CalendarAdds", spec := "calendarAdds", unfollowed := true, recurses := true, apart := false }
def CalendarAddsSaid : Prop := calendarAddsRow.holds Try.pinned (OpenSpec.ofChange calendarAddsSpec)

/-- ITS FALSE NEIGHBOUR: 'it returns false'. Refute it at one input. -/
def calendarAddsWrong : ChangeSpec := { name := "calendarAdds", fn := fun _ => fun
  | [d1, d2, d3] => { results := [.lit (.bool false)], args := [d1, d2, d3] }
  | _ => none }
def CalendarAddsWrongFalsely : Prop := calendarAddsRow.holds Try.pinned (OpenSpec.ofChange calendarAddsWrong)

/-- 'tranchelaw07.CalendarCounts': WHATEVER THE INPUT: true; the input reads as it did. -/
def calendarCountsSpec : ChangeSpec := { name := "calendarCounts", fn := fun _ => fun
  | [d1, d2, d3, d4] => { results := [.lit (.bool true)], args := [d1, d2, d3, d4] }
  | _ => none }
def calendarCountsRow : OpenClaim := { program := "ytilbolgncpfmmaa", sum := "44ddf1edb99a5bba93e45d592de44ebb3f132599777a32ab45ae006492ea305a", func := "tranche/tranchelaw07.CalendarCounts", spec := "calendarCounts", unfollowed := true, recurses := true, apart := false }
def CalendarCountsSaid : Prop := calendarCountsRow.holds Try.pinned (OpenSpec.ofChange calendarCountsSpec)

/-- ITS FALSE NEIGHBOUR: 'it returns false'. Refute it at one input. -/
def calendarCountsWrong : ChangeSpec := { name := "calendarCounts", fn := fun _ => fun
  | [d1, d2, d3, d4] => { results := [.lit (.bool false)], args := [d1, d2, d3, d4] }
  | _ => none }
def CalendarCountsWrongFalsely : Prop := calendarCountsRow.holds Try.pinned (OpenSpec.ofChange calendarCountsWrong)

/-- 'tranchelaw07.CalendarDays': WHATEVER THE INPUT: true; the input reads as it did. -/
def calendarDaysSpec : ChangeSpec := { name := "calendarDays", fn := fun _ => fun
  | [d1, d2, d3] => { results := [.lit (.bool true)], args := [d1, d2, d3] }
  | _ => none }
def calendarDaysRow : OpenClaim := { program := "ytilbolgncpfmmaa", sum := "44ddf1edb99a5bba93e45d592de44ebb3f132599777a32ab45ae006492ea305a", func := "tranche/tranchelaw07.CalendarDays", spec := "calendarDays", unfollowed := true, recurses := true, apart := false }
def CalendarDaysSaid : Prop := calendarDaysRow.holds Try.pinned (OpenSpec.ofChange calendarDaysSpec)

/-- ITS FALSE NEIGHBOUR: 'it returns false'. Refute it at one input. -/
def calendarDaysWrong : ChangeSpec := { name := "calendarDays", fn := fun _ => fun
  | [d1, d2, d3] => { results := [.lit (.bool false)], args := [d1, d2, d3] }
  | _ => none }
def CalendarDaysWrongFalsely : Prop := calendarDaysRow.holds Try.pinned (OpenSpec.ofChange calendarDaysWrong)

/-- 'tranchelaw07.CalendarNearest': WHATEVER THE INPUT: true; the input reads as it did. -/
def calendarNearestSpec : ChangeSpec := { name := "calendarNearest", fn := fun _ => fun
  | [d1, d2] => { results := [.lit (.bool true)], args := [d1, d2] }
  | _ => none }
def calendarNearestRow : OpenClaim := { program := "ytilbolgncpfmmaa", sum := "44ddf1edb99a5bba93e45d592de44ebb3f132599777a32ab45ae006492ea305a", func := "tranche/tranchelaw07.CalendarNearest", spec := "calendarNearest", unfollowed := true, recurses := true, apart := false }
def CalendarNearestSaid : Prop := calendarNearestRow.holds Try.pinned (OpenSpec.ofChange calendarNearestSpec)

/-- ITS FALSE NEIGHBOUR: 'it returns false'. Refute it at one input. -/
def calendarNearestWrong : ChangeSpec := { name := "calendarNearest", fn := fun _ => fun
  | [d1, d2] => { results := [.lit (.bool false)], args := [d1, d2] }
  | _ => none }
def CalendarNearestWrongFalsely : Prop := calendarNearestRow.holds Try.pinned (OpenSpec.ofChange calendarNearestWrong)

/-- 'tranchelaw07.CalendarConventions': WHATEVER THE INPUT: true; the input reads as it did. -/
def calendarConventionsSpec : ChangeSpec := { name := "calendarConventions", fn := fun _ => fun
  | [d1, d2] => { results := [.lit (.bool true)], args := [d1, d2] }
  | _ => none }
def calendarConventionsRow : OpenClaim := { program := "ytilbolgncpfmmaa", sum := "44ddf1edb99a5bba93e45d592de44ebb3f132599777a32ab45ae006492ea305a", func := "tranche/tranchelaw07.CalendarConventions", spec := "calendarConventions", unfollowed := true, recurses := true, apart := false }
def CalendarConventionsSaid : Prop := calendarConventionsRow.holds Try.pinned (OpenSpec.ofChange calendarConventionsSpec)

/-- ITS FALSE NEIGHBOUR: 'it returns false'. Refute it at one input. -/
def calendarConventionsWrong : ChangeSpec := { name := "calendarConventions", fn := fun _ => fun
  | [d1, d2] => { results := [.lit (.bool false)], args := [d1, d2] }
  | _ => none }
def CalendarConventionsWrongFalsely : Prop := calendarConventionsRow.holds Try.pinned (OpenSpec.ofChange calendarConventionsWrong)

/-- 'tranchelaw09.ScheduleBuilds': WHATEVER THE INPUT: true; the input reads as it did. -/
def scheduleBuildsSpec : ChangeSpec := { name := "scheduleBuilds", fn := fun _ => fun
  | [d1, d2, d3] => { results := [.lit (.bool true)], args := [d1, d2, d3] }
  | _ => none }
def scheduleBuildsRow : OpenClaim := { program := "ytilbolgncpfmmaa", sum := "44ddf1edb99a5bba93e45d592de44ebb3f132599777a32ab45ae006492ea305a", func := "tranche/tranchelaw09.ScheduleBuilds", spec := "scheduleBuilds", unfollowed := true, recurses := true, apart := false }
def ScheduleBuildsSaid : Prop := scheduleBuildsRow.holds Try.pinned (OpenSpec.ofChange scheduleBuildsSpec)

/-- ITS FALSE NEIGHBOUR: 'it returns false'. Refute it at one input. -/
def scheduleBuildsWrong : ChangeSpec := { name := "scheduleBuilds", fn := fun _ => fun
  | [d1, d2, d3] => { results := [.lit (.bool false)], args := [d1, d2, d3] }
  | _ => none }
def ScheduleBuildsWrongFalsely : Prop := scheduleBuildsRow.holds Try.pinned (OpenSpec.ofChange scheduleBuildsWrong)

/-- 'tranchelaw09.ScheduleCovers': WHATEVER THE INPUT: true; the input reads as it did. -/
def scheduleCoversSpec : ChangeSpec := { name := "scheduleCovers", fn := fun _ => fun
  | [d1, d2, d3] => { results := [.lit (.bool true)], args := [d1, d2, d3] }
  | _ => none }
def scheduleCoversRow : OpenClaim := { program := "ytilbolgncpfmmaa", sum := "44ddf1edb99a5bba93e45d592de44ebb3f132599777a32ab45ae006492ea305a", func := "tranche/tranchelaw09.ScheduleCovers", spec := "scheduleCovers", unfollowed := true, recurses := true, apart := false }
def ScheduleCoversSaid : Prop := scheduleCoversRow.holds Try.pinned (OpenSpec.ofChange scheduleCoversSpec)

/-- ITS FALSE NEIGHBOUR: 'it returns false'. Refute it at one input. -/
def scheduleCoversWrong : ChangeSpec := { name := "scheduleCovers", fn := fun _ => fun
  | [d1, d2, d3] => { results := [.lit (.bool false)], args := [d1, d2, d3] }
  | _ => none }
def ScheduleCoversWrongFalsely : Prop := scheduleCoversRow.holds Try.pinned (OpenSpec.ofChange scheduleCoversWrong)

/-- 'tranchelaw09.ScheduleCoarser': WHATEVER THE INPUT: true; the input reads as it did. -/
def scheduleCoarserSpec : ChangeSpec := { name := "scheduleCoarser", fn := fun _ => fun
  | [d1, d2, d3, d4] => { results := [.lit (.bool true)], args := [d1, d2, d3, d4] }
  | _ => none }
def scheduleCoarserRow : OpenClaim := { program := "ytilbolgncpfmmaa", sum := "44ddf1edb99a5bba93e45d592de44ebb3f132599777a32ab45ae006492ea305a", func := "tranche/tranchelaw09.ScheduleCoarser", spec := "scheduleCoarser", unfollowed := true, recurses := true, apart := false }
def ScheduleCoarserSaid : Prop := scheduleCoarserRow.holds Try.pinned (OpenSpec.ofChange scheduleCoarserSpec)

/-- ITS FALSE NEIGHBOUR: 'it returns false'. Refute it at one input. -/
def scheduleCoarserWrong : ChangeSpec := { name := "scheduleCoarser", fn := fun _ => fun
  | [d1, d2, d3, d4] => { results := [.lit (.bool false)], args := [d1, d2, d3, d4] }
  | _ => none }
def ScheduleCoarserWrongFalsely : Prop := scheduleCoarserRow.holds Try.pinned (OpenSpec.ofChange scheduleCoarserWrong)

/-- 'tranchelaw09.ScheduleExtends': WHATEVER THE INPUT: true; the input reads as it did. -/
def scheduleExtendsSpec : ChangeSpec := { name := "scheduleExtends", fn := fun _ => fun
  | [d1, d2, d3, d4] => { results := [.lit (.bool true)], args := [d1, d2, d3, d4] }
  | _ => none }
def scheduleExtendsRow : OpenClaim := { program := "ytilbolgncpfmmaa", sum := "44ddf1edb99a5bba93e45d592de44ebb3f132599777a32ab45ae006492ea305a", func := "tranche/tranchelaw09.ScheduleExtends", spec := "scheduleExtends", unfollowed := true, recurses := true, apart := false }
def ScheduleExtendsSaid : Prop := scheduleExtendsRow.holds Try.pinned (OpenSpec.ofChange scheduleExtendsSpec)

/-- ITS FALSE NEIGHBOUR: 'it returns false'. Refute it at one input. -/
def scheduleExtendsWrong : ChangeSpec := { name := "scheduleExtends", fn := fun _ => fun
  | [d1, d2, d3, d4] => { results := [.lit (.bool false)], args := [d1, d2, d3, d4] }
  | _ => none }
def ScheduleExtendsWrongFalsely : Prop := scheduleExtendsRow.holds Try.pinned (OpenSpec.ofChange scheduleExtendsWrong)

/-- 'tranchelaw09.ScheduleRegular': WHATEVER THE INPUT: true; the input reads as it did. -/
def scheduleRegularSpec : ChangeSpec := { name := "scheduleRegular", fn := fun _ => fun
  | [d1, d2, d3, d4] => { results := [.lit (.bool true)], args := [d1, d2, d3, d4] }
  | _ => none }
def scheduleRegularRow : OpenClaim := { program := "ytilbolgncpfmmaa", sum := "44ddf1edb99a5bba93e45d592de44ebb3f132599777a32ab45ae006492ea305a", func := "tranche/tranchelaw09.ScheduleRegular", spec := "scheduleRegular", unfollowed := true, recurses := true, apart := false }
def ScheduleRegularSaid : Prop := scheduleRegularRow.holds Try.pinned (OpenSpec.ofChange scheduleRegularSpec)

/-- ITS FALSE NEIGHBOUR: 'it returns false'. Refute it at one input. -/
def scheduleRegularWrong : ChangeSpec := { name := "scheduleRegular", fn := fun _ => fun
  | [d1, d2, d3, d4] => { results := [.lit (.bool false)], args := [d1, d2, d3, d4] }
  | _ => none }
def ScheduleRegularWrongFalsely : Prop := scheduleRegularRow.holds Try.pinned (OpenSpec.ofChange scheduleRegularWrong)

/-- 'tranchelaw09.ScheduleChecks': WHATEVER THE INPUT: true; the input reads as it did. -/
def scheduleChecksSpec : ChangeSpec := { name := "scheduleChecks", fn := fun _ => fun
  | [d1, d2, d3, d4, d5] => { results := [.lit (.bool true)], args := [d1, d2, d3, d4, d5] }
  | _ => none }
def scheduleChecksRow : OpenClaim := { program := "ytilbolgncpfmmaa", sum := "44ddf1edb99a5bba93e45d592de44ebb3f132599777a32ab45ae006492ea305a", func := "tranche/tranchelaw09.ScheduleChecks", spec := "scheduleChecks", unfollowed := true, recurses := true, apart := false }
def ScheduleChecksSaid : Prop := scheduleChecksRow.holds Try.pinned (OpenSpec.ofChange scheduleChecksSpec)

/-- ITS FALSE NEIGHBOUR: 'it returns false'. Refute it at one input. -/
def scheduleChecksWrong : ChangeSpec := { name := "scheduleChecks", fn := fun _ => fun
  | [d1, d2, d3, d4, d5] => { results := [.lit (.bool false)], args := [d1, d2, d3, d4, d5] }
  | _ => none }
def ScheduleChecksWrongFalsely : Prop := scheduleChecksRow.holds Try.pinned (OpenSpec.ofChange scheduleChecksWrong)

/-- 'tranchelaw09.ScheduleDays': WHATEVER THE INPUT: true; the input reads as it did. -/
def scheduleDaysSpec : ChangeSpec := { name := "scheduleDays", fn := fun _ => fun
  | [d1, d2] => { results := [.lit (.bool true)], args := [d1, d2] }
  | _ => none }
def scheduleDaysRow : OpenClaim := { program := "ytilbolgncpfmmaa", sum := "44ddf1edb99a5bba93e45d592de44ebb3f132599777a32ab45ae006492ea305a", func := "tranche/tranchelaw09.ScheduleDays", spec := "scheduleDays", unfollowed := true, recurses := true, apart := false }
def ScheduleDaysSaid : Prop := scheduleDaysRow.holds Try.pinned (OpenSpec.ofChange scheduleDaysSpec)

/-- ITS FALSE NEIGHBOUR: 'it returns false'. Refute it at one input. -/
def scheduleDaysWrong : ChangeSpec := { name := "scheduleDays", fn := fun _ => fun
  | [d1, d2] => { results := [.lit (.bool false)], args := [d1, d2] }
  | _ => none }
def ScheduleDaysWrongFalsely : Prop := scheduleDaysRow.holds Try.pinned (OpenSpec.ofChange scheduleDaysWrong)

/-- 'tranchelaw07.CalendarChecks': WHATEVER THE INPUT: true; the input reads as it did. -/
def calendarChecksSpec : ChangeSpec := { name := "calendarChecks", fn := fun _ => fun
  | [d1, d2] => { results := [.lit (.bool true)], args := [d1, d2] }
  | _ => none }
def calendarChecksRow : OpenClaim := { program := "ytilbolgncpfmmaa", sum := "44ddf1edb99a5bba93e45d592de44ebb3f132599777a32ab45ae006492ea305a", func := "tranche/tranchelaw07.CalendarChecks", spec := "calendarChecks", unfollowed := true, recurses := true, apart := false }
def CalendarChecksSaid : Prop := calendarChecksRow.holds Try.pinned (OpenSpec.ofChange calendarChecksSpec)

/-- ITS FALSE NEIGHBOUR: 'it returns false'. Refute it at one input. -/
def calendarChecksWrong : ChangeSpec := { name := "calendarChecks", fn := fun _ => fun
  | [d1, d2] => { results := [.lit (.bool false)], args := [d1, d2] }
  | _ => none }
def CalendarChecksWrongFalsely : Prop := calendarChecksRow.holds Try.pinned (OpenSpec.ofChange calendarChecksWrong)

/-- 'tranchelaw07.CalendarJoint': WHATEVER THE INPUT: true; the input reads as it did. -/
def calendarJointSpec : ChangeSpec := { name := "calendarJoint", fn := fun _ => fun
  | [d1, d2, d3] => { results := [.lit (.bool true)], args := [d1, d2, d3] }
  | _ => none }
def calendarJointRow : OpenClaim := { program := "ytilbolgncpfmmaa", sum := "44ddf1edb99a5bba93e45d592de44ebb3f132599777a32ab45ae006492ea305a", func := "tranche/tranchelaw07.CalendarJoint", spec := "calendarJoint", unfollowed := true, recurses := true, apart := false }
def CalendarJointSaid : Prop := calendarJointRow.holds Try.pinned (OpenSpec.ofChange calendarJointSpec)

/-- ITS FALSE NEIGHBOUR: 'it returns false'. Refute it at one input. -/
def calendarJointWrong : ChangeSpec := { name := "calendarJoint", fn := fun _ => fun
  | [d1, d2, d3] => { results := [.lit (.bool false)], args := [d1, d2, d3] }
  | _ => none }
def CalendarJointWrongFalsely : Prop := calendarJointRow.holds Try.pinned (OpenSpec.ofChange calendarJointWrong)

/-- 'tranchelaw09.SchedulePays': WHATEVER THE INPUT: true; the input reads as it did. -/
def schedulePaysSpec : ChangeSpec := { name := "schedulePays", fn := fun _ => fun
  | [d1, d2, d3] => { results := [.lit (.bool true)], args := [d1, d2, d3] }
  | _ => none }
def schedulePaysRow : OpenClaim := { program := "ytilbolgncpfmmaa", sum := "44ddf1edb99a5bba93e45d592de44ebb3f132599777a32ab45ae006492ea305a", func := "tranche/tranchelaw09.SchedulePays", spec := "schedulePays", unfollowed := true, recurses := true, apart := false }
def SchedulePaysSaid : Prop := schedulePaysRow.holds Try.pinned (OpenSpec.ofChange schedulePaysSpec)

/-- ITS FALSE NEIGHBOUR: 'it returns false'. Refute it at one input. -/
def schedulePaysWrong : ChangeSpec := { name := "schedulePays", fn := fun _ => fun
  | [d1, d2, d3] => { results := [.lit (.bool false)], args := [d1, d2, d3] }
  | _ => none }
def SchedulePaysWrongFalsely : Prop := schedulePaysRow.holds Try.pinned (OpenSpec.ofChange schedulePaysWrong)

/-- 'tranchelaw09.SchedulePaid': WHATEVER THE INPUT: true; the input reads as it did. -/
def schedulePaidSpec : ChangeSpec := { name := "schedulePaid", fn := fun _ => fun
  | [d1, d2, d3] => { results := [.lit (.bool true)], args := [d1, d2, d3] }
  | _ => none }
def schedulePaidRow : OpenClaim := { program := "ytilbolgncpfmmaa", sum := "44ddf1edb99a5bba93e45d592de44ebb3f132599777a32ab45ae006492ea305a", func := "tranche/tranchelaw09.SchedulePaid", spec := "schedulePaid", unfollowed := true, recurses := true, apart := false }
def SchedulePaidSaid : Prop := schedulePaidRow.holds Try.pinned (OpenSpec.ofChange schedulePaidSpec)

/-- ITS FALSE NEIGHBOUR: 'it returns false'. Refute it at one input. -/
def schedulePaidWrong : ChangeSpec := { name := "schedulePaid", fn := fun _ => fun
  | [d1, d2, d3] => { results := [.lit (.bool false)], args := [d1, d2, d3] }
  | _ => none }
def SchedulePaidWrongFalsely : Prop := schedulePaidRow.holds Try.pinned (OpenSpec.ofChange schedulePaidWrong)

/- THE SECOND FORM. 'bulk': how many values and letters a reading holds, each counted each time it is reached (what is shared counts as often as it is met; a slice's spare places count too). A statement '..UptoSaid' is the law's where the arguments, and the package variables that the reading takes, are together of bulk at most 1048576: NARROWER than '..Said'. Prove '..Said' where nothing that the law and all that it calls make is longer than what came in: it says more and counts as full. Else prove '..UptoSaid'. A law counts once. -/
mutual
def uptoBulk {H : Type} : DataW H → Nat
  | .lit (.string bytes) => bytes.length + 1
  | .lit _ => 1
  | .nil => 1
  | .ptr d => uptoBulk d + 1
  | .slice elems spare => uptoBulkAll elems + uptoBulkAll spare + 1
  | .agg parts => uptoBulkAll parts + 1
  | .iface _ d => uptoBulk d + 1
  | .map entries => uptoBulkEntries entries + 1
  | .held _ => 1
def uptoBulkAll {H : Type} : List (DataW H) → Nat
  | [] => 0
  | d :: r => uptoBulk d + uptoBulkAll r
def uptoBulkEntries {H : Type} : List (Lit × DataW H) → Nat
  | [] => 0
  | x :: r => uptoBulkEntry x + uptoBulkEntries r
def uptoBulkEntry {H : Type} : Lit × DataW H → Nat
  | (.string bytes, d) => bytes.length + uptoBulk d + 1
  | (_, d) => uptoBulk d + 1
 end
def uptoSmall : (H : Type) → List (DataW H) → Bool := fun _ ds => decide (uptoBulkAll ds ≤ 1048576)
def OpenSpec.upto (s : _root_.Go.ChangeSpec) : _root_.Go.OpenSpec := { _root_.Go.OpenSpec.ofChange s with cond := some uptoSmall }

/-- 'tranchelaw07.CalendarSteps', WHERE WHAT IT READS IS OF BULK AT MOST 1048576: true; the input reads as it did. -/
def calendarStepsUptoRow : OpenClaim := { program := "ytilbolgncpfmmaa", sum := "44ddf1edb99a5bba93e45d592de44ebb3f132599777a32ab45ae006492ea305a", func := "tranche/tranchelaw07.CalendarSteps", spec := "calendarSteps", unfollowed := true, recurses := true, apart := false, narrowed := true }
def CalendarStepsUptoSaid : Prop := calendarStepsUptoRow.holds Try.pinned (OpenSpec.upto calendarStepsSpec)

/-- 'tranchelaw07.CalendarAdds', WHERE WHAT IT READS IS OF BULK AT MOST 1048576: true; the input reads as it did. -/
def calendarAddsUptoRow : OpenClaim := { program := "ytilbolgncpfmmaa", sum := "44ddf1edb99a5bba93e45d592de44ebb3f132599777a32ab45ae006492ea305a", func := "tranche/tranchelaw07.CalendarAdds", spec := "calendarAdds", unfollowed := true, recurses := true, apart := false, narrowed := true }
def CalendarAddsUptoSaid : Prop := calendarAddsUptoRow.holds Try.pinned (OpenSpec.upto calendarAddsSpec)

/-- 'tranchelaw07.CalendarCounts', WHERE WHAT IT READS IS OF BULK AT MOST 1048576: true; the input reads as it did. -/
def calendarCountsUptoRow : OpenClaim := { program := "ytilbolgncpfmmaa", sum := "44ddf1edb99a5bba93e45d592de44ebb3f132599777a32ab45ae006492ea305a", func := "tranche/tranchelaw07.CalendarCounts", spec := "calendarCounts", unfollowed := true, recurses := true, apart := false, narrowed := true }
def CalendarCountsUptoSaid : Prop := calendarCountsUptoRow.holds Try.pinned (OpenSpec.upto calendarCountsSpec)

/-- 'tranchelaw07.CalendarDays', WHERE WHAT IT READS IS OF BULK AT MOST 1048576: true; the input reads as it did. -/
def calendarDaysUptoRow : OpenClaim := { program := "ytilbolgncpfmmaa", sum := "44ddf1edb99a5bba93e45d592de44ebb3f132599777a32ab45ae006492ea305a", func := "tranche/tranchelaw07.CalendarDays", spec := "calendarDays", unfollowed := true, recurses := true, apart := false, narrowed := true }
def CalendarDaysUptoSaid : Prop := calendarDaysUptoRow.holds Try.pinned (OpenSpec.upto calendarDaysSpec)

/-- 'tranchelaw07.CalendarNearest', WHERE WHAT IT READS IS OF BULK AT MOST 1048576: true; the input reads as it did. -/
def calendarNearestUptoRow : OpenClaim := { program := "ytilbolgncpfmmaa", sum := "44ddf1edb99a5bba93e45d592de44ebb3f132599777a32ab45ae006492ea305a", func := "tranche/tranchelaw07.CalendarNearest", spec := "calendarNearest", unfollowed := true, recurses := true, apart := false, narrowed := true }
def CalendarNearestUptoSaid : Prop := calendarNearestUptoRow.holds Try.pinned (OpenSpec.upto calendarNearestSpec)

/-- 'tranchelaw07.CalendarConventions', WHERE WHAT IT READS IS OF BULK AT MOST 1048576: true; the input reads as it did. -/
def calendarConventionsUptoRow : OpenClaim := { program := "ytilbolgncpfmmaa", sum := "44ddf1edb99a5bba93e45d592de44ebb3f132599777a32ab45ae006492ea305a", func := "tranche/tranchelaw07.CalendarConventions", spec := "calendarConventions", unfollowed := true, recurses := true, apart := false, narrowed := true }
def CalendarConventionsUptoSaid : Prop := calendarConventionsUptoRow.holds Try.pinned (OpenSpec.upto calendarConventionsSpec)

/-- 'tranchelaw09.ScheduleBuilds', WHERE WHAT IT READS IS OF BULK AT MOST 1048576: true; the input reads as it did. -/
def scheduleBuildsUptoRow : OpenClaim := { program := "ytilbolgncpfmmaa", sum := "44ddf1edb99a5bba93e45d592de44ebb3f132599777a32ab45ae006492ea305a", func := "tranche/tranchelaw09.ScheduleBuilds", spec := "scheduleBuilds", unfollowed := true, recurses := true, apart := false, narrowed := true }
def ScheduleBuildsUptoSaid : Prop := scheduleBuildsUptoRow.holds Try.pinned (OpenSpec.upto scheduleBuildsSpec)

/-- 'tranchelaw09.ScheduleCovers', WHERE WHAT IT READS IS OF BULK AT MOST 1048576: true; the input reads as it did. -/
def scheduleCoversUptoRow : OpenClaim := { program := "ytilbolgncpfmmaa", sum := "44ddf1edb99a5bba93e45d592de44ebb3f132599777a32ab45ae006492ea305a", func := "tranche/tranchelaw09.ScheduleCovers", spec := "scheduleCovers", unfollowed := true, recurses := true, apart := false, narrowed := true }
def ScheduleCoversUptoSaid : Prop := scheduleCoversUptoRow.holds Try.pinned (OpenSpec.upto scheduleCoversSpec)

/-- 'tranchelaw09.ScheduleCoarser', WHERE WHAT IT READS IS OF BULK AT MOST 1048576: true; the input reads as it did. -/
def scheduleCoarserUptoRow : OpenClaim := { program := "ytilbolgncpfmmaa", sum := "44ddf1edb99a5bba93e45d592de44ebb3f132599777a32ab45ae006492ea305a", func := "tranche/tranchelaw09.ScheduleCoarser", spec := "scheduleCoarser", unfollowed := true, recurses := true, apart := false, narrowed := true }
def ScheduleCoarserUptoSaid : Prop := scheduleCoarserUptoRow.holds Try.pinned (OpenSpec.upto scheduleCoarserSpec)

/-- 'tranchelaw09.ScheduleExtends', WHERE WHAT IT READS IS OF BULK AT MOST 1048576: true; the input reads as it did. -/
def scheduleExtendsUptoRow : OpenClaim := { program := "ytilbolgncpfmmaa", sum := "44ddf1edb99a5bba93e45d592de44ebb3f132599777a32ab45ae006492ea305a", func := "tranche/tranchelaw09.ScheduleExtends", spec := "scheduleExtends", unfollowed := true, recurses := true, apart := false, narrowed := true }
def ScheduleExtendsUptoSaid : Prop := scheduleExtendsUptoRow.holds Try.pinned (OpenSpec.upto scheduleExtendsSpec)

/-- 'tranchelaw09.ScheduleRegular', WHERE WHAT IT READS IS OF BULK AT MOST 1048576: true; the input reads as it did. -/
def scheduleRegularUptoRow : OpenClaim := { program := "ytilbolgncpfmmaa", sum := "44ddf1edb99a5bba93e45d592de44ebb3f132599777a32ab45ae006492ea305a", func := "tranche/tranchelaw09.ScheduleRegular", spec := "scheduleRegular", unfollowed := true, recurses := true, apart := false, narrowed := true }
def ScheduleRegularUptoSaid : Prop := scheduleRegularUptoRow.holds Try.pinned (OpenSpec.upto scheduleRegularSpec)

/-- 'tranchelaw09.ScheduleChecks', WHERE WHAT IT READS IS OF BULK AT MOST 1048576: true; the input reads as it did. -/
def scheduleChecksUptoRow : OpenClaim := { program := "ytilbolgncpfmmaa", sum := "44ddf1edb99a5bba93e45d592de44ebb3f132599777a32ab45ae006492ea305a", func := "tranche/tranchelaw09.ScheduleChecks", spec := "scheduleChecks", unfollowed := true, recurses := true, apart := false, narrowed := true }
def ScheduleChecksUptoSaid : Prop := scheduleChecksUptoRow.holds Try.pinned (OpenSpec.upto scheduleChecksSpec)

/-- 'tranchelaw09.ScheduleDays', WHERE WHAT IT READS IS OF BULK AT MOST 1048576: true; the input reads as it did. -/
def scheduleDaysUptoRow : OpenClaim := { program := "ytilbolgncpfmmaa", sum := "44ddf1edb99a5bba93e45d592de44ebb3f132599777a32ab45ae006492ea305a", func := "tranche/tranchelaw09.ScheduleDays", spec := "scheduleDays", unfollowed := true, recurses := true, apart := false, narrowed := true }
def ScheduleDaysUptoSaid : Prop := scheduleDaysUptoRow.holds Try.pinned (OpenSpec.upto scheduleDaysSpec)

/-- 'tranchelaw07.CalendarChecks', WHERE WHAT IT READS IS OF BULK AT MOST 1048576: true; the input reads as it did. -/
def calendarChecksUptoRow : OpenClaim := { program := "ytilbolgncpfmmaa", sum := "44ddf1edb99a5bba93e45d592de44ebb3f132599777a32ab45ae006492ea305a", func := "tranche/tranchelaw07.CalendarChecks", spec := "calendarChecks", unfollowed := true, recurses := true, apart := false, narrowed := true }
def CalendarChecksUptoSaid : Prop := calendarChecksUptoRow.holds Try.pinned (OpenSpec.upto calendarChecksSpec)

/-- 'tranchelaw07.CalendarJoint', WHERE WHAT IT READS IS OF BULK AT MOST 1048576: true; the input reads as it did. -/
def calendarJointUptoRow : OpenClaim := { program := "ytilbolgncpfmmaa", sum := "44ddf1edb99a5bba93e45d592de44ebb3f132599777a32ab45ae006492ea305a", func := "tranche/tranchelaw07.CalendarJoint", spec := "calendarJoint", unfollowed := true, recurses := true, apart := false, narrowed := true }
def CalendarJointUptoSaid : Prop := calendarJointUptoRow.holds Try.pinned (OpenSpec.upto calendarJointSpec)

/-- 'tranchelaw09.SchedulePays', WHERE WHAT IT READS IS OF BULK AT MOST 1048576: true; the input reads as it did. -/
def schedulePaysUptoRow : OpenClaim := { program := "ytilbolgncpfmmaa", sum := "44ddf1edb99a5bba93e45d592de44ebb3f132599777a32ab45ae006492ea305a", func := "tranche/tranchelaw09.SchedulePays", spec := "schedulePays", unfollowed := true, recurses := true, apart := false, narrowed := true }
def SchedulePaysUptoSaid : Prop := schedulePaysUptoRow.holds Try.pinned (OpenSpec.upto schedulePaysSpec)

/-- 'tranchelaw09.SchedulePaid', WHERE WHAT IT READS IS OF BULK AT MOST 1048576: true; the input reads as it did. -/
def schedulePaidUptoRow : OpenClaim := { program := "ytilbolgncpfmmaa", sum := "44ddf1edb99a5bba93e45d592de44ebb3f132599777a32ab45ae006492ea305a", func := "tranche/tranchelaw09.SchedulePaid", spec := "schedulePaid", unfollowed := true, recurses := true, apart := false, narrowed := true }
def SchedulePaidUptoSaid : Prop := schedulePaidUptoRow.holds Try.pinned (OpenSpec.upto schedulePaidSpec)

end Rows
end Go.Proofs.Ytilbolgncpfmmaa
