/- the contracts' forms -/
import Derived.Test.YtlfhjmfelbomaaaDoorTab
import Derived.Test.YtlfhjmfelbomaaaDoorRexU
namespace Go.Proofs.YtlfhjmfelbomaaaDoor
open Go.Rex
/-- errors.Is(woe.At(place, x), x), x a sentinel -/
def isCon : Con := { f := 20, nv := 1, hp := [{ t := 63, cs := [.int .i64 (.var 0), .iface 75 (.ptr { blk := 1 })], ro := true }, { t := 100, cs := [.hole], ro := true }], args := [.one (.iface 61 (.ptr { blk := 0 })), .one (.iface 75 (.ptr { blk := 1 }))], nv' := 1, ret := .w (.one (.bool (.lit true))), hp' := [goneSB, goneSB] }
def ss1 : List (Nat × TypeId × TypeId) := [(1, 75, 100)]
def ss2 : List (Nat × TypeId × TypeId) := [(1, 75, 100), (0, 75, 100)]
def shA3 : Bool × List FK := (true, [.int .i64, .int .i64, .int .i64])
def shI : Bool × List FK := (false, [.int .i64])
def shSpan : Bool × List FK := (true, [.bool, .int .i64, .int .i64])
def shAddr : Bool × List FK := (true, [.int .i64, .int .i64, .int .i64])
def awakeCon1 : Con := { f := 8, nv := 0, gl := sentGl ss1 0, args := [], hp := sentHp 27 ss1 0, nv' := 0, ret := .w (.one (.bool (.lit true))), hp' := [goneSB, goneSB] }
end Go.Proofs.YtlfhjmfelbomaaaDoor
