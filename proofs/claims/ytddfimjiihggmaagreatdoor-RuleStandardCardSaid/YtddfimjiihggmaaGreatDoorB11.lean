/- Walk: the reference reads texts of expressions. -/
import Derived.Test.YtddfimjiihggmaaGreatDoorB7
import Derived.Test.YtddfimjiihggmaaGreatDoorB4
import Derived.Test.YtddfimjiihggmaaGreatDoorB9
import Derived.Test.YtddfimjiihggmaaGreatDoorB8
import Derived.Test.YtddfimjiihggmaaGreatDoorB5
import Derived.Test.YtddfimjiihggmaaGreatDoorB6
import Derived.Test.YtddfimjiihggmaaGreatDoorRows
import Derived.JoinedOf
import Derived.KernelRfl
set_option maxHeartbeats 16000000
set_option maxRecDepth 20000
namespace Go.Proofs.YtddfimjiihggmaaGreatDoor
namespace Px
open Go.RowKit
section
variable {P : Program} {B : Nat} {w0 : Cx} {Q Q' : Exit → PS → Prop} {st : PS} {sq : Bool} {ops : Array Oper} {K K' : PS → Prop} {rest : List Oper}
theorem YR.mono (h : YR P sq ops K rest st) (hk : ∀ s, K s → K' s) : YR P sq ops K' rest st := by
 induction h with
 | nil h => exact .nil (hk _ h)
 | op x ef hs ho hw _ ih => exact .op x ef hs ho hw ih
 | skip hd hw _ ih => exact .skip hd hw ih
 | any hq h => exact .any hq fun B w0 Q hQ => h B w0 Q fun s hs => hQ s (hk s hs)
end
end Px
open Go.RowKit Px
section
variable {X : Type} {tp tp' : Str → Bool} {pe pe' : Str → Option X} {L : Nat}
end
theorem and_mk {a b : Bool} (h : a = true) (h' : b = true) : (a && b) = true := by rw [h, h']; rfl
theorem sharedfact1 : laidOutB Tryz.prog = true := by kernel_rfl
theorem sharedfact2 : mapsRowed Tryz.prog = true := by kernel_rfl
theorem sharedfact6 : (Tryz.prog.stops == []) = true := by kernel_rfl
theorem sharedfact8 : (Tryz.prog.stopKnobs == []) = true := by kernel_rfl
theorem sharedplainKeys : Tryz.prog.plainKeys = true := by kernel_rfl
theorem sharedfact24 : Tryz.prog.stopsHeard = true := by kernel_rfl
theorem sharedfact25 : Tryz.prog.mayEnter = true := by kernel_rfl
theorem sharedliftsFinal : Tryz.prog.liftsFinal = false := by kernel_rfl
end Go.Proofs.YtddfimjiihggmaaGreatDoor