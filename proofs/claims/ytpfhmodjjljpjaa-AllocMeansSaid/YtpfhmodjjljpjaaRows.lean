/-
  No cell of these rows narrows 'for every input' (looked for: loops, veiled, ifaces, maps, wideKeys, modest, calm, conditions, laid).
  DERIVED. THE GIVEN ROWS OF THIS SEAT. 21 by the template 'for every input the law returns true; each argument reads behind the call as it read before'; 0 by the template 'total and deterministic' (their statements: YtpfhmodjjljpjaaTotals.lean).
  GIVEN WITH THE SEED: the statements are not yours to turn. If you find one false, say at which input.
  Laid BY PROGRAM, IN A SANDBOX (cutbox-rows.mjs): the forced cells as the released guide's own fill.sh prints them over the translation 040fcc92c7680ad4… (all of the seat's roots in one cut). By AI agents, Wed Nov 11 2026. No macro, syntax, notation, axiom, sorry.
-/
import Derived.Test.YtpfhmodjjljpjaaChecked
import GoSem.Claim
import GoSem.ClaimJoined
import GoSem.ClaimMapViews
import Derived.JoinedTies
import Derived.KernelRfl
namespace Go.Proofs.Ytpfhmodjjljpjaa
/- THE CELL 'sum', in the pinned program and in every row, IS THE sha256 OF THE DUMP (.gsa) THAT YtpfhmodjjljpjaaProg.lean LOADS. Nothing in Lean hashes anything: it is a label: what it is worth is what the hold of that sum in a sandbox is worth. -/
noncomputable def Try.pinned : Pinned := { name := "ytpfhmodjjljpjaa", sum := "040fcc92c7680ad483b7901eb9c8f9182d707f482616be26852e793ce46f4f5c", checked := Try.checked }
namespace Rows
def none {H : Type} : Left H := { results := [], args := [] }

/-- 'seedcornlaw33.TidyOf': WHATEVER THE INPUT: true; the input reads as it did. -/
def tidyOfSpec : ChangeSpec := { name := "tidyOf", fn := fun _ => fun
  | [d1, d2] => { results := [.lit (.bool true)], args := [d1, d2] }
  | _ => none }
def tidyOfRow : OpenClaim := { program := "ytpfhmodjjljpjaa", sum := "040fcc92c7680ad483b7901eb9c8f9182d707f482616be26852e793ce46f4f5c", func := "seedcorn/seedcornlaw33.TidyOf", spec := "tidyOf", unfollowed := true, recurses := true, plainKeys := false, apart := false }
def TidyOfSaid : Prop := tidyOfRow.holds Try.pinned (OpenSpec.ofChange tidyOfSpec)

/-- ITS FALSE NEIGHBOUR: 'it returns false'. Refute it at one input. -/
def tidyOfWrong : ChangeSpec := { name := "tidyOf", fn := fun _ => fun
  | [d1, d2] => { results := [.lit (.bool false)], args := [d1, d2] }
  | _ => none }
def TidyOfWrongFalsely : Prop := tidyOfRow.holds Try.pinned (OpenSpec.ofChange tidyOfWrong)

/-- 'seedcornlaw33.TidyCheck': WHATEVER THE INPUT: true; the input reads as it did. -/
def tidyCheckSpec : ChangeSpec := { name := "tidyCheck", fn := fun _ => fun
  | [d1, d2, d3] => { results := [.lit (.bool true)], args := [d1, d2, d3] }
  | _ => none }
def tidyCheckRow : OpenClaim := { program := "ytpfhmodjjljpjaa", sum := "040fcc92c7680ad483b7901eb9c8f9182d707f482616be26852e793ce46f4f5c", func := "seedcorn/seedcornlaw33.TidyCheck", spec := "tidyCheck", unfollowed := true, recurses := true, plainKeys := false, apart := false }
def TidyCheckSaid : Prop := tidyCheckRow.holds Try.pinned (OpenSpec.ofChange tidyCheckSpec)

/-- ITS FALSE NEIGHBOUR: 'it returns false'. Refute it at one input. -/
def tidyCheckWrong : ChangeSpec := { name := "tidyCheck", fn := fun _ => fun
  | [d1, d2, d3] => { results := [.lit (.bool false)], args := [d1, d2, d3] }
  | _ => none }
def TidyCheckWrongFalsely : Prop := tidyCheckRow.holds Try.pinned (OpenSpec.ofChange tidyCheckWrong)

/-- 'seedcornlaw33.TidyMeans': WHATEVER THE INPUT: true; the input reads as it did. -/
def tidyMeansSpec : ChangeSpec := { name := "tidyMeans", fn := fun _ => fun
  | [d1, d2, d3] => { results := [.lit (.bool true)], args := [d1, d2, d3] }
  | _ => none }
def tidyMeansRow : OpenClaim := { program := "ytpfhmodjjljpjaa", sum := "040fcc92c7680ad483b7901eb9c8f9182d707f482616be26852e793ce46f4f5c", func := "seedcorn/seedcornlaw33.TidyMeans", spec := "tidyMeans", unfollowed := true, recurses := true, plainKeys := false, apart := false }
def TidyMeansSaid : Prop := tidyMeansRow.holds Try.pinned (OpenSpec.ofChange tidyMeansSpec)

/-- ITS FALSE NEIGHBOUR: 'it returns false'. Refute it at one input. -/
def tidyMeansWrong : ChangeSpec := { name := "tidyMeans", fn := fun _ => fun
  | [d1, d2, d3] => { results := [.lit (.bool false)], args := [d1, d2, d3] }
  | _ => none }
def TidyMeansWrongFalsely : Prop := tidyMeansRow.holds Try.pinned (OpenSpec.ofChange tidyMeansWrong)

/-- 'seedcornlaw33.TidyTrue': WHATEVER THE INPUT: true; the input reads as it did. -/
def tidyTrueSpec : ChangeSpec := { name := "tidyTrue", fn := fun _ => fun
  | [d1, d2, d3] => { results := [.lit (.bool true)], args := [d1, d2, d3] }
  | _ => none }
def tidyTrueRow : OpenClaim := { program := "ytpfhmodjjljpjaa", sum := "040fcc92c7680ad483b7901eb9c8f9182d707f482616be26852e793ce46f4f5c", func := "seedcorn/seedcornlaw33.TidyTrue", spec := "tidyTrue", unfollowed := true, recurses := true, plainKeys := false, apart := false }
def TidyTrueSaid : Prop := tidyTrueRow.holds Try.pinned (OpenSpec.ofChange tidyTrueSpec)

/-- ITS FALSE NEIGHBOUR: 'it returns false'. Refute it at one input. -/
def tidyTrueWrong : ChangeSpec := { name := "tidyTrue", fn := fun _ => fun
  | [d1, d2, d3] => { results := [.lit (.bool false)], args := [d1, d2, d3] }
  | _ => none }
def TidyTrueWrongFalsely : Prop := tidyTrueRow.holds Try.pinned (OpenSpec.ofChange tidyTrueWrong)

/-- 'seedcornlaw33.TidyTwice': WHATEVER THE INPUT: true; the input reads as it did. -/
def tidyTwiceSpec : ChangeSpec := { name := "tidyTwice", fn := fun _ => fun
  | [d1, d2] => { results := [.lit (.bool true)], args := [d1, d2] }
  | _ => none }
def tidyTwiceRow : OpenClaim := { program := "ytpfhmodjjljpjaa", sum := "040fcc92c7680ad483b7901eb9c8f9182d707f482616be26852e793ce46f4f5c", func := "seedcorn/seedcornlaw33.TidyTwice", spec := "tidyTwice", unfollowed := true, recurses := true, plainKeys := false, apart := false }
def TidyTwiceSaid : Prop := tidyTwiceRow.holds Try.pinned (OpenSpec.ofChange tidyTwiceSpec)

/-- ITS FALSE NEIGHBOUR: 'it returns false'. Refute it at one input. -/
def tidyTwiceWrong : ChangeSpec := { name := "tidyTwice", fn := fun _ => fun
  | [d1, d2] => { results := [.lit (.bool false)], args := [d1, d2] }
  | _ => none }
def TidyTwiceWrongFalsely : Prop := tidyTwiceRow.holds Try.pinned (OpenSpec.ofChange tidyTwiceWrong)

/-- 'seedcornlaw28.AllocMeans': WHATEVER THE INPUT: true; the input reads as it did. -/
def allocMeansSpec : ChangeSpec := { name := "allocMeans", fn := fun _ => fun
  | [d1, d2, d3] => { results := [.lit (.bool true)], args := [d1, d2, d3] }
  | _ => none }
def allocMeansRow : OpenClaim := { program := "ytpfhmodjjljpjaa", sum := "040fcc92c7680ad483b7901eb9c8f9182d707f482616be26852e793ce46f4f5c", func := "seedcorn/seedcornlaw28.AllocMeans", spec := "allocMeans", unfollowed := true, recurses := true, plainKeys := false, apart := false }
def AllocMeansSaid : Prop := allocMeansRow.holds Try.pinned (OpenSpec.ofChange allocMeansSpec)

/-- ITS FALSE NEIGHBOUR: 'it returns false'. Refute it at one input. -/
def allocMeansWrong : ChangeSpec := { name := "allocMeans", fn := fun _ => fun
  | [d1, d2, d3] => { results := [.lit (.bool false)], args := [d1, d2, d3] }
  | _ => none }
def AllocMeansWrongFalsely : Prop := allocMeansRow.holds Try.pinned (OpenSpec.ofChange allocMeansWrong)

/-- 'seedcornlaw33.TidyChain': WHATEVER THE INPUT: true; the input reads as it did. -/
def tidyChainSpec : ChangeSpec := { name := "tidyChain", fn := fun _ => fun
  | [d] => { results := [.lit (.bool true)], args := [d] }
  | _ => none }
def tidyChainRow : OpenClaim := { program := "ytpfhmodjjljpjaa", sum := "040fcc92c7680ad483b7901eb9c8f9182d707f482616be26852e793ce46f4f5c", func := "seedcorn/seedcornlaw33.TidyChain", spec := "tidyChain", unfollowed := true, recurses := true, plainKeys := false, apart := false }
def TidyChainSaid : Prop := tidyChainRow.holds Try.pinned (OpenSpec.ofChange tidyChainSpec)

/-- ITS FALSE NEIGHBOUR: 'it returns false'. Refute it at one input. -/
def tidyChainWrong : ChangeSpec := { name := "tidyChain", fn := fun _ => fun
  | [d] => { results := [.lit (.bool false)], args := [d] }
  | _ => none }
def TidyChainWrongFalsely : Prop := tidyChainRow.holds Try.pinned (OpenSpec.ofChange tidyChainWrong)

/-- 'seedcornlaw28.AllocTrue': WHATEVER THE INPUT: true; the input reads as it did. -/
def allocTrueSpec : ChangeSpec := { name := "allocTrue", fn := fun _ => fun
  | [d1, d2, d3] => { results := [.lit (.bool true)], args := [d1, d2, d3] }
  | _ => none }
def allocTrueRow : OpenClaim := { program := "ytpfhmodjjljpjaa", sum := "040fcc92c7680ad483b7901eb9c8f9182d707f482616be26852e793ce46f4f5c", func := "seedcorn/seedcornlaw28.AllocTrue", spec := "allocTrue", unfollowed := true, recurses := true, plainKeys := false, apart := false }
def AllocTrueSaid : Prop := allocTrueRow.holds Try.pinned (OpenSpec.ofChange allocTrueSpec)

/-- ITS FALSE NEIGHBOUR: 'it returns false'. Refute it at one input. -/
def allocTrueWrong : ChangeSpec := { name := "allocTrue", fn := fun _ => fun
  | [d1, d2, d3] => { results := [.lit (.bool false)], args := [d1, d2, d3] }
  | _ => none }
def AllocTrueWrongFalsely : Prop := allocTrueRow.holds Try.pinned (OpenSpec.ofChange allocTrueWrong)

/-- 'seedcornlaw33.TidyMost': WHATEVER THE INPUT: true; the input reads as it did. -/
def tidyMostSpec : ChangeSpec := { name := "tidyMost", fn := fun _ => fun
  | [d1, d2] => { results := [.lit (.bool true)], args := [d1, d2] }
  | _ => none }
def tidyMostRow : OpenClaim := { program := "ytpfhmodjjljpjaa", sum := "040fcc92c7680ad483b7901eb9c8f9182d707f482616be26852e793ce46f4f5c", func := "seedcorn/seedcornlaw33.TidyMost", spec := "tidyMost", unfollowed := true, recurses := true, plainKeys := false, apart := false }
def TidyMostSaid : Prop := tidyMostRow.holds Try.pinned (OpenSpec.ofChange tidyMostSpec)

/-- ITS FALSE NEIGHBOUR: 'it returns false'. Refute it at one input. -/
def tidyMostWrong : ChangeSpec := { name := "tidyMost", fn := fun _ => fun
  | [d1, d2] => { results := [.lit (.bool false)], args := [d1, d2] }
  | _ => none }
def TidyMostWrongFalsely : Prop := tidyMostRow.holds Try.pinned (OpenSpec.ofChange tidyMostWrong)

/-- 'seedcornlaw33.TidyJoined': WHATEVER THE INPUT: true; the input reads as it did. -/
def tidyJoinedSpec : ChangeSpec := { name := "tidyJoined", fn := fun _ => fun
  | [d] => { results := [.lit (.bool true)], args := [d] }
  | _ => none }
def tidyJoinedRow : OpenClaim := { program := "ytpfhmodjjljpjaa", sum := "040fcc92c7680ad483b7901eb9c8f9182d707f482616be26852e793ce46f4f5c", func := "seedcorn/seedcornlaw33.TidyJoined", spec := "tidyJoined", unfollowed := true, recurses := true, plainKeys := false, apart := false }
def TidyJoinedSaid : Prop := tidyJoinedRow.holds Try.pinned (OpenSpec.ofChange tidyJoinedSpec)

/-- ITS FALSE NEIGHBOUR: 'it returns false'. Refute it at one input. -/
def tidyJoinedWrong : ChangeSpec := { name := "tidyJoined", fn := fun _ => fun
  | [d] => { results := [.lit (.bool false)], args := [d] }
  | _ => none }
def TidyJoinedWrongFalsely : Prop := tidyJoinedRow.holds Try.pinned (OpenSpec.ofChange tidyJoinedWrong)

/-- 'seedcornlaw27.LiveOf': WHATEVER THE INPUT: true; the input reads as it did. -/
def liveOfSpec : ChangeSpec := { name := "liveOf", fn := fun _ => fun
  | [d] => { results := [.lit (.bool true)], args := [d] }
  | _ => none }
def liveOfRow : OpenClaim := { program := "ytpfhmodjjljpjaa", sum := "040fcc92c7680ad483b7901eb9c8f9182d707f482616be26852e793ce46f4f5c", func := "seedcorn/seedcornlaw27.LiveOf", spec := "liveOf", unfollowed := true, recurses := true, plainKeys := false, apart := false }
def LiveOfSaid : Prop := liveOfRow.holds Try.pinned (OpenSpec.ofChange liveOfSpec)

/-- ITS FALSE NEIGHBOUR: 'it returns false'. Refute it at one input. -/
def liveOfWrong : ChangeSpec := { name := "liveOf", fn := fun _ => fun
  | [d] => { results := [.lit (.bool false)], args := [d] }
  | _ => none }
def LiveOfWrongFalsely : Prop := liveOfRow.holds Try.pinned (OpenSpec.ofChange liveOfWrong)

/-- 'seedcornlaw27.LiveCheck': WHATEVER THE INPUT: true; the input reads as it did. -/
def liveCheckSpec : ChangeSpec := { name := "liveCheck", fn := fun _ => fun
  | [d1, d2, d3] => { results := [.lit (.bool true)], args := [d1, d2, d3] }
  | _ => none }
def liveCheckRow : OpenClaim := { program := "ytpfhmodjjljpjaa", sum := "040fcc92c7680ad483b7901eb9c8f9182d707f482616be26852e793ce46f4f5c", func := "seedcorn/seedcornlaw27.LiveCheck", spec := "liveCheck", unfollowed := true, recurses := true, plainKeys := false, apart := false }
def LiveCheckSaid : Prop := liveCheckRow.holds Try.pinned (OpenSpec.ofChange liveCheckSpec)

/-- ITS FALSE NEIGHBOUR: 'it returns false'. Refute it at one input. -/
def liveCheckWrong : ChangeSpec := { name := "liveCheck", fn := fun _ => fun
  | [d1, d2, d3] => { results := [.lit (.bool false)], args := [d1, d2, d3] }
  | _ => none }
def LiveCheckWrongFalsely : Prop := liveCheckRow.holds Try.pinned (OpenSpec.ofChange liveCheckWrong)

/-- 'seedcornlaw27.LiveBehind': WHATEVER THE INPUT: true; the input reads as it did. -/
def liveBehindSpec : ChangeSpec := { name := "liveBehind", fn := fun _ => fun
  | [d1, d2, d3] => { results := [.lit (.bool true)], args := [d1, d2, d3] }
  | _ => none }
def liveBehindRow : OpenClaim := { program := "ytpfhmodjjljpjaa", sum := "040fcc92c7680ad483b7901eb9c8f9182d707f482616be26852e793ce46f4f5c", func := "seedcorn/seedcornlaw27.LiveBehind", spec := "liveBehind", unfollowed := true, recurses := true, plainKeys := false, apart := false }
def LiveBehindSaid : Prop := liveBehindRow.holds Try.pinned (OpenSpec.ofChange liveBehindSpec)

/-- ITS FALSE NEIGHBOUR: 'it returns false'. Refute it at one input. -/
def liveBehindWrong : ChangeSpec := { name := "liveBehind", fn := fun _ => fun
  | [d1, d2, d3] => { results := [.lit (.bool false)], args := [d1, d2, d3] }
  | _ => none }
def LiveBehindWrongFalsely : Prop := liveBehindRow.holds Try.pinned (OpenSpec.ofChange liveBehindWrong)

/-- 'seedcornlaw27.LiveLeast': WHATEVER THE INPUT: true; the input reads as it did. -/
def liveLeastSpec : ChangeSpec := { name := "liveLeast", fn := fun _ => fun
  | [d1, d2] => { results := [.lit (.bool true)], args := [d1, d2] }
  | _ => none }
def liveLeastRow : OpenClaim := { program := "ytpfhmodjjljpjaa", sum := "040fcc92c7680ad483b7901eb9c8f9182d707f482616be26852e793ce46f4f5c", func := "seedcorn/seedcornlaw27.LiveLeast", spec := "liveLeast", unfollowed := true, recurses := true, plainKeys := false, apart := false }
def LiveLeastSaid : Prop := liveLeastRow.holds Try.pinned (OpenSpec.ofChange liveLeastSpec)

/-- ITS FALSE NEIGHBOUR: 'it returns false'. Refute it at one input. -/
def liveLeastWrong : ChangeSpec := { name := "liveLeast", fn := fun _ => fun
  | [d1, d2] => { results := [.lit (.bool false)], args := [d1, d2] }
  | _ => none }
def LiveLeastWrongFalsely : Prop := liveLeastRow.holds Try.pinned (OpenSpec.ofChange liveLeastWrong)

/-- 'seedcornlaw27.LiveReads': WHATEVER THE INPUT: true; the input reads as it did. -/
def liveReadsSpec : ChangeSpec := { name := "liveReads", fn := fun _ => fun
  | [d1, d2, d3] => { results := [.lit (.bool true)], args := [d1, d2, d3] }
  | _ => none }
def liveReadsRow : OpenClaim := { program := "ytpfhmodjjljpjaa", sum := "040fcc92c7680ad483b7901eb9c8f9182d707f482616be26852e793ce46f4f5c", func := "seedcorn/seedcornlaw27.LiveReads", spec := "liveReads", unfollowed := true, recurses := true, plainKeys := false, apart := false }
def LiveReadsSaid : Prop := liveReadsRow.holds Try.pinned (OpenSpec.ofChange liveReadsSpec)

/-- ITS FALSE NEIGHBOUR: 'it returns false'. Refute it at one input. -/
def liveReadsWrong : ChangeSpec := { name := "liveReads", fn := fun _ => fun
  | [d1, d2, d3] => { results := [.lit (.bool false)], args := [d1, d2, d3] }
  | _ => none }
def LiveReadsWrongFalsely : Prop := liveReadsRow.holds Try.pinned (OpenSpec.ofChange liveReadsWrong)

/-- 'seedcornlaw27.LiveWay': WHATEVER THE INPUT: true; the input reads as it did. -/
def liveWaySpec : ChangeSpec := { name := "liveWay", fn := fun _ => fun
  | [d] => { results := [.lit (.bool true)], args := [d] }
  | _ => none }
def liveWayRow : OpenClaim := { program := "ytpfhmodjjljpjaa", sum := "040fcc92c7680ad483b7901eb9c8f9182d707f482616be26852e793ce46f4f5c", func := "seedcorn/seedcornlaw27.LiveWay", spec := "liveWay", unfollowed := true, recurses := true, plainKeys := false, apart := false }
def LiveWaySaid : Prop := liveWayRow.holds Try.pinned (OpenSpec.ofChange liveWaySpec)

/-- ITS FALSE NEIGHBOUR: 'it returns false'. Refute it at one input. -/
def liveWayWrong : ChangeSpec := { name := "liveWay", fn := fun _ => fun
  | [d] => { results := [.lit (.bool false)], args := [d] }
  | _ => none }
def LiveWayWrongFalsely : Prop := liveWayRow.holds Try.pinned (OpenSpec.ofChange liveWayWrong)

/-- 'seedcornlaw27.LiveMeets': WHATEVER THE INPUT: true; the input reads as it did. -/
def liveMeetsSpec : ChangeSpec := { name := "liveMeets", fn := fun _ => fun
  | [d1, d2, d3] => { results := [.lit (.bool true)], args := [d1, d2, d3] }
  | _ => none }
def liveMeetsRow : OpenClaim := { program := "ytpfhmodjjljpjaa", sum := "040fcc92c7680ad483b7901eb9c8f9182d707f482616be26852e793ce46f4f5c", func := "seedcorn/seedcornlaw27.LiveMeets", spec := "liveMeets", unfollowed := true, recurses := true, plainKeys := false, apart := false }
def LiveMeetsSaid : Prop := liveMeetsRow.holds Try.pinned (OpenSpec.ofChange liveMeetsSpec)

/-- ITS FALSE NEIGHBOUR: 'it returns false'. Refute it at one input. -/
def liveMeetsWrong : ChangeSpec := { name := "liveMeets", fn := fun _ => fun
  | [d1, d2, d3] => { results := [.lit (.bool false)], args := [d1, d2, d3] }
  | _ => none }
def LiveMeetsWrongFalsely : Prop := liveMeetsRow.holds Try.pinned (OpenSpec.ofChange liveMeetsWrong)

/-- 'seedcornlaw27.LiveIdle': WHATEVER THE INPUT: true; the input reads as it did. -/
def liveIdleSpec : ChangeSpec := { name := "liveIdle", fn := fun _ => fun
  | [d1, d2, d3] => { results := [.lit (.bool true)], args := [d1, d2, d3] }
  | _ => none }
def liveIdleRow : OpenClaim := { program := "ytpfhmodjjljpjaa", sum := "040fcc92c7680ad483b7901eb9c8f9182d707f482616be26852e793ce46f4f5c", func := "seedcorn/seedcornlaw27.LiveIdle", spec := "liveIdle", unfollowed := true, recurses := true, plainKeys := false, apart := false }
def LiveIdleSaid : Prop := liveIdleRow.holds Try.pinned (OpenSpec.ofChange liveIdleSpec)

/-- ITS FALSE NEIGHBOUR: 'it returns false'. Refute it at one input. -/
def liveIdleWrong : ChangeSpec := { name := "liveIdle", fn := fun _ => fun
  | [d1, d2, d3] => { results := [.lit (.bool false)], args := [d1, d2, d3] }
  | _ => none }
def LiveIdleWrongFalsely : Prop := liveIdleRow.holds Try.pinned (OpenSpec.ofChange liveIdleWrong)

/-- 'seedcornlaw28.AllocHolds': WHATEVER THE INPUT: true; the input reads as it did. -/
def allocHoldsSpec : ChangeSpec := { name := "allocHolds", fn := fun _ => fun
  | [d1, d2, d3] => { results := [.lit (.bool true)], args := [d1, d2, d3] }
  | _ => none }
def allocHoldsRow : OpenClaim := { program := "ytpfhmodjjljpjaa", sum := "040fcc92c7680ad483b7901eb9c8f9182d707f482616be26852e793ce46f4f5c", func := "seedcorn/seedcornlaw28.AllocHolds", spec := "allocHolds", unfollowed := true, recurses := true, plainKeys := false, apart := false }
def AllocHoldsSaid : Prop := allocHoldsRow.holds Try.pinned (OpenSpec.ofChange allocHoldsSpec)

/-- ITS FALSE NEIGHBOUR: 'it returns false'. Refute it at one input. -/
def allocHoldsWrong : ChangeSpec := { name := "allocHolds", fn := fun _ => fun
  | [d1, d2, d3] => { results := [.lit (.bool false)], args := [d1, d2, d3] }
  | _ => none }
def AllocHoldsWrongFalsely : Prop := allocHoldsRow.holds Try.pinned (OpenSpec.ofChange allocHoldsWrong)

/-- 'seedcornlaw28.AllocMore': WHATEVER THE INPUT: true; the input reads as it did. -/
def allocMoreSpec : ChangeSpec := { name := "allocMore", fn := fun _ => fun
  | [d1, d2] => { results := [.lit (.bool true)], args := [d1, d2] }
  | _ => none }
def allocMoreRow : OpenClaim := { program := "ytpfhmodjjljpjaa", sum := "040fcc92c7680ad483b7901eb9c8f9182d707f482616be26852e793ce46f4f5c", func := "seedcorn/seedcornlaw28.AllocMore", spec := "allocMore", unfollowed := true, recurses := true, plainKeys := false, apart := false }
def AllocMoreSaid : Prop := allocMoreRow.holds Try.pinned (OpenSpec.ofChange allocMoreSpec)

/-- ITS FALSE NEIGHBOUR: 'it returns false'. Refute it at one input. -/
def allocMoreWrong : ChangeSpec := { name := "allocMore", fn := fun _ => fun
  | [d1, d2] => { results := [.lit (.bool false)], args := [d1, d2] }
  | _ => none }
def AllocMoreWrongFalsely : Prop := allocMoreRow.holds Try.pinned (OpenSpec.ofChange allocMoreWrong)

/-- 'seedcornlaw28.AllocEach': WHATEVER THE INPUT: true; the input reads as it did. -/
def allocEachSpec : ChangeSpec := { name := "allocEach", fn := fun _ => fun
  | [d1, d2] => { results := [.lit (.bool true)], args := [d1, d2] }
  | _ => none }
def allocEachRow : OpenClaim := { program := "ytpfhmodjjljpjaa", sum := "040fcc92c7680ad483b7901eb9c8f9182d707f482616be26852e793ce46f4f5c", func := "seedcorn/seedcornlaw28.AllocEach", spec := "allocEach", unfollowed := true, recurses := true, plainKeys := false, apart := false }
def AllocEachSaid : Prop := allocEachRow.holds Try.pinned (OpenSpec.ofChange allocEachSpec)

/-- ITS FALSE NEIGHBOUR: 'it returns false'. Refute it at one input. -/
def allocEachWrong : ChangeSpec := { name := "allocEach", fn := fun _ => fun
  | [d1, d2] => { results := [.lit (.bool false)], args := [d1, d2] }
  | _ => none }
def AllocEachWrongFalsely : Prop := allocEachRow.holds Try.pinned (OpenSpec.ofChange allocEachWrong)

/- THE SECOND FORM. 'bulk': how many values and letters a reading holds, each counted each time it is reached (what is shared counts as often as it is met; a slice's spare places count too). A statement '..UptoSaid' is the law's where the arguments, and the package variables that the reading takes, are together of bulk at most 1048576: NARROWER than '..Said'. Prove '..Said' where nothing that the law and all that it calls make is longer than what came in: it says more and counts as full. Else prove '..UptoSaid'. A law counts once. -/
mutual
def uptoBulk {H : Type} : DataW H → Nat
  | .lit (.string bytes) => bytes.length + 1
  | .lit _ => 1
  | .nil => 1
  | .ptr d => uptoBulk d + 1
  | .slice elems spare => uptoBulkAll elems + uptoBulkAll spare + 1
  | .agg parts => uptoBulkAll parts + 1
  | .iface _ d => uptoBulk d + 1
  | .map entries => uptoBulkEntries entries + 1
  | .held _ => 1
def uptoBulkAll {H : Type} : List (DataW H) → Nat
  | [] => 0
  | d :: r => uptoBulk d + uptoBulkAll r
def uptoBulkEntries {H : Type} : List (Lit × DataW H) → Nat
  | [] => 0
  | x :: r => uptoBulkEntry x + uptoBulkEntries r
def uptoBulkEntry {H : Type} : Lit × DataW H → Nat
  | (.string bytes, d) => bytes.length + uptoBulk d + 1
  | (_, d) => uptoBulk d + 1
 end
def uptoSmall : (H : Type) → List (DataW H) → Bool := fun _ ds => decide (uptoBulkAll ds ≤ 1048576)
def OpenSpec.upto (s : _root_.Go.ChangeSpec) : _root_.Go.OpenSpec := { _root_.Go.OpenSpec.ofChange s with cond := some uptoSmall }

/-- 'seedcornlaw33.TidyOf', WHERE WHAT IT READS IS OF BULK AT MOST 1048576: true; the input reads as it did. -/
def tidyOfUptoRow : OpenClaim := { program := "ytpfhmodjjljpjaa", sum := "040fcc92c7680ad483b7901eb9c8f9182d707f482616be26852e793ce46f4f5c", func := "seedcorn/seedcornlaw33.TidyOf", spec := "tidyOf", unfollowed := true, recurses := true, plainKeys := false, apart := false, narrowed := true }
def TidyOfUptoSaid : Prop := tidyOfUptoRow.holds Try.pinned (OpenSpec.upto tidyOfSpec)

/-- 'seedcornlaw33.TidyCheck', WHERE WHAT IT READS IS OF BULK AT MOST 1048576: true; the input reads as it did. -/
def tidyCheckUptoRow : OpenClaim := { program := "ytpfhmodjjljpjaa", sum := "040fcc92c7680ad483b7901eb9c8f9182d707f482616be26852e793ce46f4f5c", func := "seedcorn/seedcornlaw33.TidyCheck", spec := "tidyCheck", unfollowed := true, recurses := true, plainKeys := false, apart := false, narrowed := true }
def TidyCheckUptoSaid : Prop := tidyCheckUptoRow.holds Try.pinned (OpenSpec.upto tidyCheckSpec)

/-- 'seedcornlaw33.TidyMeans', WHERE WHAT IT READS IS OF BULK AT MOST 1048576: true; the input reads as it did. -/
def tidyMeansUptoRow : OpenClaim := { program := "ytpfhmodjjljpjaa", sum := "040fcc92c7680ad483b7901eb9c8f9182d707f482616be26852e793ce46f4f5c", func := "seedcorn/seedcornlaw33.TidyMeans", spec := "tidyMeans", unfollowed := true, recurses := true, plainKeys := false, apart := false, narrowed := true }
def TidyMeansUptoSaid : Prop := tidyMeansUptoRow.holds Try.pinned (OpenSpec.upto tidyMeansSpec)

/-- 'seedcornlaw33.TidyTrue', WHERE WHAT IT READS IS OF BULK AT MOST 1048576: true; the input reads as it did. -/
def tidyTrueUptoRow : OpenClaim := { program := "ytpfhmodjjljpjaa", sum := "040fcc92c7680ad483b7901eb9c8f9182d707f482616be26852e793ce46f4f5c", func := "seedcorn/seedcornlaw33.TidyTrue", spec := "tidyTrue", unfollowed := true, recurses := true, plainKeys := false, apart := false, narrowed := true }
def TidyTrueUptoSaid : Prop := tidyTrueUptoRow.holds Try.pinned (OpenSpec.upto tidyTrueSpec)

/-- 'seedcornlaw33.TidyTwice', WHERE WHAT IT READS IS OF BULK AT MOST 1048576: true; the input reads as it did. -/
def tidyTwiceUptoRow : OpenClaim := { program := "ytpfhmodjjljpjaa", sum := "040fcc92c7680ad483b7901eb9c8f9182d707f482616be26852e793ce46f4f5c", func := "seedcorn/seedcornlaw33.TidyTwice", spec := "tidyTwice", unfollowed := true, recurses := true, plainKeys := false, apart := false, narrowed := true }
def TidyTwiceUptoSaid : Prop := tidyTwiceUptoRow.holds Try.pinned (OpenSpec.upto tidyTwiceSpec)

/-- 'seedcornlaw28.AllocMeans', WHERE WHAT IT READS IS OF BULK AT MOST 1048576: true; the input reads as it did. -/
def allocMeansUptoRow : OpenClaim := { program := "ytpfhmodjjljpjaa", sum := "040fcc92c7680ad483b7901eb9c8f9182d707f482616be26852e793ce46f4f5c", func := "seedcorn/seedcornlaw28.AllocMeans", spec := "allocMeans", unfollowed := true, recurses := true, plainKeys := false, apart := false, narrowed := true }
def AllocMeansUptoSaid : Prop := allocMeansUptoRow.holds Try.pinned (OpenSpec.upto allocMeansSpec)

/-- 'seedcornlaw33.TidyChain', WHERE WHAT IT READS IS OF BULK AT MOST 1048576: true; the input reads as it did. -/
def tidyChainUptoRow : OpenClaim := { program := "ytpfhmodjjljpjaa", sum := "040fcc92c7680ad483b7901eb9c8f9182d707f482616be26852e793ce46f4f5c", func := "seedcorn/seedcornlaw33.TidyChain", spec := "tidyChain", unfollowed := true, recurses := true, plainKeys := false, apart := false, narrowed := true }
def TidyChainUptoSaid : Prop := tidyChainUptoRow.holds Try.pinned (OpenSpec.upto tidyChainSpec)

/-- 'seedcornlaw28.AllocTrue', WHERE WHAT IT READS IS OF BULK AT MOST 1048576: true; the input reads as it did. -/
def allocTrueUptoRow : OpenClaim := { program := "ytpfhmodjjljpjaa", sum := "040fcc92c7680ad483b7901eb9c8f9182d707f482616be26852e793ce46f4f5c", func := "seedcorn/seedcornlaw28.AllocTrue", spec := "allocTrue", unfollowed := true, recurses := true, plainKeys := false, apart := false, narrowed := true }
def AllocTrueUptoSaid : Prop := allocTrueUptoRow.holds Try.pinned (OpenSpec.upto allocTrueSpec)

/-- 'seedcornlaw33.TidyMost', WHERE WHAT IT READS IS OF BULK AT MOST 1048576: true; the input reads as it did. -/
def tidyMostUptoRow : OpenClaim := { program := "ytpfhmodjjljpjaa", sum := "040fcc92c7680ad483b7901eb9c8f9182d707f482616be26852e793ce46f4f5c", func := "seedcorn/seedcornlaw33.TidyMost", spec := "tidyMost", unfollowed := true, recurses := true, plainKeys := false, apart := false, narrowed := true }
def TidyMostUptoSaid : Prop := tidyMostUptoRow.holds Try.pinned (OpenSpec.upto tidyMostSpec)

/-- 'seedcornlaw33.TidyJoined', WHERE WHAT IT READS IS OF BULK AT MOST 1048576: true; the input reads as it did. -/
def tidyJoinedUptoRow : OpenClaim := { program := "ytpfhmodjjljpjaa", sum := "040fcc92c7680ad483b7901eb9c8f9182d707f482616be26852e793ce46f4f5c", func := "seedcorn/seedcornlaw33.TidyJoined", spec := "tidyJoined", unfollowed := true, recurses := true, plainKeys := false, apart := false, narrowed := true }
def TidyJoinedUptoSaid : Prop := tidyJoinedUptoRow.holds Try.pinned (OpenSpec.upto tidyJoinedSpec)

/-- 'seedcornlaw27.LiveOf', WHERE WHAT IT READS IS OF BULK AT MOST 1048576: true; the input reads as it did. -/
def liveOfUptoRow : OpenClaim := { program := "ytpfhmodjjljpjaa", sum := "040fcc92c7680ad483b7901eb9c8f9182d707f482616be26852e793ce46f4f5c", func := "seedcorn/seedcornlaw27.LiveOf", spec := "liveOf", unfollowed := true, recurses := true, plainKeys := false, apart := false, narrowed := true }
def LiveOfUptoSaid : Prop := liveOfUptoRow.holds Try.pinned (OpenSpec.upto liveOfSpec)

/-- 'seedcornlaw27.LiveCheck', WHERE WHAT IT READS IS OF BULK AT MOST 1048576: true; the input reads as it did. -/
def liveCheckUptoRow : OpenClaim := { program := "ytpfhmodjjljpjaa", sum := "040fcc92c7680ad483b7901eb9c8f9182d707f482616be26852e793ce46f4f5c", func := "seedcorn/seedcornlaw27.LiveCheck", spec := "liveCheck", unfollowed := true, recurses := true, plainKeys := false, apart := false, narrowed := true }
def LiveCheckUptoSaid : Prop := liveCheckUptoRow.holds Try.pinned (OpenSpec.upto liveCheckSpec)

/-- 'seedcornlaw27.LiveBehind', WHERE WHAT IT READS IS OF BULK AT MOST 1048576: true; the input reads as it did. -/
def liveBehindUptoRow : OpenClaim := { program := "ytpfhmodjjljpjaa", sum := "040fcc92c7680ad483b7901eb9c8f9182d707f482616be26852e793ce46f4f5c", func := "seedcorn/seedcornlaw27.LiveBehind", spec := "liveBehind", unfollowed := true, recurses := true, plainKeys := false, apart := false, narrowed := true }
def LiveBehindUptoSaid : Prop := liveBehindUptoRow.holds Try.pinned (OpenSpec.upto liveBehindSpec)

/-- 'seedcornlaw27.LiveLeast', WHERE WHAT IT READS IS OF BULK AT MOST 1048576: true; the input reads as it did. -/
def liveLeastUptoRow : OpenClaim := { program := "ytpfhmodjjljpjaa", sum := "040fcc92c7680ad483b7901eb9c8f9182d707f482616be26852e793ce46f4f5c", func := "seedcorn/seedcornlaw27.LiveLeast", spec := "liveLeast", unfollowed := true, recurses := true, plainKeys := false, apart := false, narrowed := true }
def LiveLeastUptoSaid : Prop := liveLeastUptoRow.holds Try.pinned (OpenSpec.upto liveLeastSpec)

/-- 'seedcornlaw27.LiveReads', WHERE WHAT IT READS IS OF BULK AT MOST 1048576: true; the input reads as it did. -/
def liveReadsUptoRow : OpenClaim := { program := "ytpfhmodjjljpjaa", sum := "040fcc92c7680ad483b7901eb9c8f9182d707f482616be26852e793ce46f4f5c", func := "seedcorn/seedcornlaw27.LiveReads", spec := "liveReads", unfollowed := true, recurses := true, plainKeys := false, apart := false, narrowed := true }
def LiveReadsUptoSaid : Prop := liveReadsUptoRow.holds Try.pinned (OpenSpec.upto liveReadsSpec)

/-- 'seedcornlaw27.LiveWay', WHERE WHAT IT READS IS OF BULK AT MOST 1048576: true; the input reads as it did. -/
def liveWayUptoRow : OpenClaim := { program := "ytpfhmodjjljpjaa", sum := "040fcc92c7680ad483b7901eb9c8f9182d707f482616be26852e793ce46f4f5c", func := "seedcorn/seedcornlaw27.LiveWay", spec := "liveWay", unfollowed := true, recurses := true, plainKeys := false, apart := false, narrowed := true }
def LiveWayUptoSaid : Prop := liveWayUptoRow.holds Try.pinned (OpenSpec.upto liveWaySpec)

/-- 'seedcornlaw27.LiveMeets', WHERE WHAT IT READS IS OF BULK AT MOST 1048576: true; the input reads as it did. -/
def liveMeetsUptoRow : OpenClaim := { program := "ytpfhmodjjljpjaa", sum := "040fcc92c7680ad483b7901eb9c8f9182d707f482616be26852e793ce46f4f5c", func := "seedcorn/seedcornlaw27.LiveMeets", spec := "liveMeets", unfollowed := true, recurses := true, plainKeys := false, apart := false, narrowed := true }
def LiveMeetsUptoSaid : Prop := liveMeetsUptoRow.holds Try.pinned (OpenSpec.upto liveMeetsSpec)

/-- 'seedcornlaw27.LiveIdle', WHERE WHAT IT READS IS OF BULK AT MOST 1048576: true; the input reads as it did. -/
def liveIdleUptoRow : OpenClaim := { program := "ytpfhmodjjljpjaa", sum := "040fcc92c7680ad483b7901eb9c8f9182d707f482616be26852e793ce46f4f5c", func := "seedcorn/seedcornlaw27.LiveIdle", spec := "liveIdle", unfollowed := true, recurses := true, plainKeys := false, apart := false, narrowed := true }
def LiveIdleUptoSaid : Prop := liveIdleUptoRow.holds Try.pinned (OpenSpec.upto liveIdleSpec)

/-- 'seedcornlaw28.AllocHolds', WHERE WHAT IT READS IS OF BULK AT MOST 1048576: true; the input reads as it did. -/
def allocHoldsUptoRow : OpenClaim := { program := "ytpfhmodjjljpjaa", sum := "040fcc92c7680ad483b7901eb9c8f9182d707f482616be26852e793ce46f4f5c", func := "seedcorn/seedcornlaw28.AllocHolds", spec := "allocHolds", unfollowed := true, recurses := true, plainKeys := false, apart := false, narrowed := true }
def AllocHoldsUptoSaid : Prop := allocHoldsUptoRow.holds Try.pinned (OpenSpec.upto allocHoldsSpec)

/-- 'seedcornlaw28.AllocMore', WHERE WHAT IT READS IS OF BULK AT MOST 1048576: true; the input reads as it did. -/
def allocMoreUptoRow : OpenClaim := { program := "ytpfhmodjjljpjaa", sum := "040fcc92c7680ad483b7901eb9c8f9182d707f482616be26852e793ce46f4f5c", func := "seedcorn/seedcornlaw28.AllocMore", spec := "allocMore", unfollowed := true, recurses := true, plainKeys := false, apart := false, narrowed := true }
def AllocMoreUptoSaid : Prop := allocMoreUptoRow.holds Try.pinned (OpenSpec.upto allocMoreSpec)

/-- 'seedcornlaw28.AllocEach', WHERE WHAT IT READS IS OF BULK AT MOST 1048576: true; the input reads as it did. -/
def allocEachUptoRow : OpenClaim := { program := "ytpfhmodjjljpjaa", sum := "040fcc92c7680ad483b7901eb9c8f9182d707f482616be26852e793ce46f4f5c", func := "seedcorn/seedcornlaw28.AllocEach", spec := "allocEach", unfollowed := true, recurses := true, plainKeys := false, apart := false, narrowed := true }
def AllocEachUptoSaid : Prop := allocEachUptoRow.holds Try.pinned (OpenSpec.upto allocEachSpec)

end Rows
end Go.Proofs.Ytpfhmodjjljpjaa
