/- Plain law of the list of pairs. -/
import Derived.Test.YtdkpmnefoobipaaGreatDoorB6
import Derived.Test.YtdkpmnefoobipaaGreatDoorB7
set_option maxHeartbeats 1000000
namespace Go.Proofs.YtdkpmnefoobipaaGreatDoor
open Go.RowKit Px

def hasF (p : List (Int × Int)) (j : Nat) : Bool := p.any fun q => q.1 == (j : Int)
def hasS (p : List (Int × Int)) (j : Nat) : Bool := p.any fun q => q.2 == (j : Int)
def marks (f : Nat → Bool) : List Bool := (List.range 8).map f
end Go.Proofs.YtdkpmnefoobipaaGreatDoor
namespace Go.Proofs.YtdkpmnefoobipaaGreatDoor
open Go.RowKit Px

def fineB (s t : Stm) : Bool := !(grtS s || grtS t) && ((stE s == 0) && ((stE t == 0) && (s.d == t.d)))
def canB (days : Int) (x y : Mv) : Bool := (x.2.2.1 == y.2.2.1) && ((x.1 == y.1) || (((x.2.2.2.1 == y.2.2.2.1) && (x.2.2.2.2 == y.2.2.2.2)) && (decide (x.2.1 - y.2.1 ≤ days) && decide (y.2.1 - x.2.1 ≤ days))))
end Go.Proofs.YtdkpmnefoobipaaGreatDoor
namespace Go.Proofs.YtdkpmnefoobipaaGreatDoor
open Go.RowKit Px

def phCan (days : Int) (xs : List DV) (r : SV) : Prop := ∃ x y : Mv, vD x.2.1 = true ∧ vD y.2.1 = true ∧ xs = [.agg (dM x), .agg (dM y)] ∧ r = .d (dB (canB days x y))
abbrev mk (f : Nat → Bool) : List SV := (marks f).map fun b => SV.d (dB b)
end Go.Proofs.YtdkpmnefoobipaaGreatDoor
