/- the contracts' forms -/
import Derived.Test.YthomdlajobnmnaaDoorTab
import Derived.Test.YthomdlajobnmnaaDoorRexW
namespace Go.Proofs.YthomdlajobnmnaaDoor
open Go.Rex
def iv (i : Nat) : SC := .int .i64 (.var i)
def kW : List Kd := [.int .i64, .int .i64, .int .i64, .int .i64, .bool]
def wCells (v : Nat) : List SC := [iv v, iv (v + 1), iv (v + 2), iv (v + 3), .bool (.var (v + 4))]
def acCells (v : Nat) : List SC := [iv v, iv (v + 1), iv (v + 2), iv (v + 3)] ++ wCells (v + 4) ++ wCells (v + 9)
def rpCells (v : Nat) : List SC := wCells v ++ [.bool (.var (v + 5))]
def plotB (n m : IE) (w b : Nat) : SB := { t := 88, cs := [.sl { blk := b + 1, i1 := .lit 0, s1 := 5 } n n, .sl { blk := b + 2, i1 := .lit 0, s1 := 52 } m m, .sln (.var w) { blk := b + 3, i1 := .lit 0, s1 := 1 } (.var (w + 1)) (.var (w + 2)), iv (w + 3), iv (w + 4), .ifn (.var (w + 5)) (.iface 119 (.ptr { blk := b + 4 }))], own := true }
def boardB (n : IE) (w : Nat) : SB := { t := 31, segs := [{ r := w + 6, n1 := n, s1 := 5, ks := kW }], own := true, cap := some (n, 5) }
def slotsB (m : IE) (w : Nat) : SB := { t := 95, segs := [{ r := w + 7, n1 := m, s1 := 52, ks := [.int .i64, .bool] }, { r := w + 8, n1 := m, s1 := 52, n2 := 10, s2 := 5, lo := 2, ks := kW }], own := true, cap := some (m, 52) }
def freeB (w : Nat) : SB := { t := 3, segs := [{ r := w + 9, n1 := .var (w + 1), s1 := 1, ks := [.int .i64] }], own := true, cap := some (.var (w + 2), 1), nl := .var w }
def plotHp (v w b : Nat) : List SB := [plotB (.var v) (.var (v + 1)) w b, boardB (.var v) w, slotsB (.var (v + 1)) w, freeB w, goneSB]
def plotHp' (v w b c : Nat) : List SB := [{ plotB (.var v) (.var (v + 1)) w b with cs := [.sl { blk := b + 1, i1 := .lit 0, s1 := 5 } (.var v) (.var v), .sl { blk := b + 2, i1 := .lit 0, s1 := 52 } (.var (v + 1)) (.var (v + 1)), .sln (.var w) { blk := c, i1 := .lit 0, s1 := 1 } (.var (w + 1)) (.var (w + 2)), iv (w + 3), iv (w + 4), .ifn (.var (w + 5)) (.iface 119 (.ptr { blk := c + 1 }))] }, boardB (.var v) w, slotsB (.var (v + 1)) w, goneSB, goneSB, freeB w, goneSB]
def ssD : List (Nat × TypeId × TypeId) := [(0, 177, 198), (3, 177, 198), (1, 177, 198), (5, 177, 198)]
def doCon : Con := { f := 14, nv := 26, gl := sentGl ssD 0, args := [.one (.ptr { blk := 8 }), .agg (acCells 0)], hp := sentHp 27 ssD 0 ++ plotHp 14 16 8, nv' := 43, ret := .tup [.agg (rpCells 26), .one (.ifn (.var 32) (.iface 177 (.ptr { blk := 1 })))], hp' := List.replicate 8 goneSB ++ plotHp' 14 33 8 13 }
def newCon : Con := { f := 13, nv := 2, args := [.one (iv 0), .one (iv 1)], hp := [], nv' := 12, ret := .tup [.one (.ptr { blk := 0 }), .one .nilif], hp' := [plotB (.var 1) (.var 0) 2 0, boardB (.var 1) 2, slotsB (.var 0) 2, freeB 2, goneSB] }
def isCon : Con := { f := 35, nv := 1, hp := [{ t := 122, cs := [.int .i64 (.var 0), .iface 177 (.ptr { blk := 1 })], ro := true }, { t := 198, cs := [.hole], ro := true }], args := [.one (.iface 119 (.ptr { blk := 0 })), .one (.iface 177 (.ptr { blk := 1 }))], nv' := 1, ret := .w (.one (.bool (.lit true))), hp' := [goneSB, goneSB] }
def isCon0 : Con := { f := 35, nv := 1, hp := [{ t := 198, cs := [.hole], ro := true }], args := [.one (.iface 177 (.ptr { blk := 0 })), .one (.iface 177 (.ptr { blk := 0 }))], nv' := 1, ret := .w (.one (.bool (.lit true))), hp' := [goneSB] }
def placeCon : Con := { f := 34, nv := 1, gl := [(6, 0)], hp := [{ t := 124, cs := [.rt 144 7 27], ro := true }, { t := 122, cs := [.int .i64 (.var 0), .hole], ro := true }], args := [.one (.iface 119 (.ptr { blk := 1 }))], nv' := 1, ret := .tup [.one (.int .i64 (.var 0)), .one (.bool (.lit true))], hp' := [goneSB, goneSB] }
def ssP : List (Nat × TypeId × TypeId) := [(0, 177, 198), (2, 177, 198), (3, 177, 198), (1, 177, 198), (5, 177, 198)]
def rtP : SB := { t := 124, cs := [.rt 144 7 27], ro := true }
def awakeP : Con := { f := 12, nv := 1, gl := sentGl ssP 0 ++ [(6, 10)], args := [], hp := sentHp 27 ssP 0 ++ [rtP], nv' := 1, ret := .w (.one (.bool (.lit true))), hp' := List.replicate 11 goneSB }
def L13 : LSpec := { f := 13, p := [1, 1, 1, 0, 1, 0], hav := [(7, .au)], kill := [30, 31, 34, 35, 36, 37, 38, 39, 40, 41, 42, 43, 32, 33], deep := [6], ift := 119 }
end Go.Proofs.YthomdlajobnmnaaDoor
