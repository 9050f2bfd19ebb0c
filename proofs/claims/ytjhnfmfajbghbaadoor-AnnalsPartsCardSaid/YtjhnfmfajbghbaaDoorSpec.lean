/- the contracts' forms -/
import Derived.Test.YtjhnfmfajbghbaaDoorTab
import Derived.Test.YtjhnfmfajbghbaaDoorRexW
namespace Go.Proofs.YtjhnfmfajbghbaaDoor
open Go.Rex
/-- errors.Is(woe.At(place, x), x), x a sentinel -/
def isCon : Con := { f := 21, nv := 1, hp := [{ t := 73, cs := [.int .i64 (.var 0), .iface 85 (.ptr { blk := 1 })], ro := true }, { t := 111, cs := [.hole], ro := true }], args := [.one (.iface 71 (.ptr { blk := 0 })), .one (.iface 85 (.ptr { blk := 1 }))], nv' := 1, ret := .w (.one (.bool (.lit true))), hp' := [goneSB, goneSB] }
def ssS : List (Nat × TypeId × TypeId) := [(1, 85, 111)]
def awakeCon : Con := { f := 8, nv := 1, gl := sentGl ssS 0, args := [], hp := sentHp 26 ssS 0, nv' := 1, ret := .w (.one (.bool (.lit true))), hp' := [goneSB, goneSB] }
def kEv : List Kd := [.int .i64, .bool, .int .i64, .int .i64, .int .i64, .int .i64, .int .i64, .int .i64]
def kBt : List Kd := [.int .i64, .bool, .int .i64, .int .i64, .int .i64, .int .i64, .bool, .bool, .int .i64, .int .i64]
def kRow : List Kd := [.int .i64, .int .i64, .int .i64, .int .i64, .int .i64, .int .i64, .int .i64, .int .i64, .int .i64, .bool]
def slW (ks : List Kd) (nv nb : Nat) : SW := .one (.sln (.var nv) { blk := nb, i1 := .lit 0, s1 := ks.length } (.var (nv + 1)) (.var (nv + 2)))
def inB (e : TypeId) (ks : List Kd) (nv : Nat) : SB := { t := e, segs := [{ r := nv + 3, n1 := .var (nv + 1), s1 := ks.length, ks := ks }], ro := true, nl := .var nv }
def outB (e : TypeId) (ks : List Kd) (nv : Nat) : SB := { t := e, segs := [{ r := nv + 3, n1 := .var (nv + 1), s1 := ks.length, ks := ks }], cap := some (.var (nv + 2), ks.length), own := true, nl := .var nv }
def eventsCon : Con := { f := 15, nv := 4, args := [slW kBt 0 0], hp := [inB 48 kBt 0], nv' := 8, ret := .w (slW kEv 4 1), hp' := [goneSB, outB 44 kEv 4] }
def alikeCon : Con := { f := 11, nv := 8, args := [slW kEv 0 0, slW kEv 4 1], hp := [inB 44 kEv 0, inB 44 kEv 4], nv' := 9, ret := .w (.one (.bool (.var 8))), hp' := [goneSB, goneSB] }
def fEv : FK := .sl 44 kEv
def fBt : FK := .sl 48 kBt
def fRow : FK := .sl 40 kRow
def shEv : Bool × List FK := (false, [fEv])
def shBt : Bool × List FK := (false, [fBt])
def shRow : Bool × List FK := (false, [fRow])
def shInt : Bool × List FK := (false, [.int .i64])
def L15 : LSpec := { f := 15, p := [1, 1, 0, 1, 0], hav := [(3, .sln 44), (8, .au)], kill := [9, 10, 11, 5, 12, 13, 14, 15, 16, 17, 18, 19, 20, 21, 22, 23, 24, 25, 26, 27, 28, 29, 30, 31, 32] }
def L11 : LSpec := { f := 11, p := [1, 1, 0, 1, 0], hav := [(5, .au)], kill := [11, 12, 13, 14, 17, 18, 19, 20, 21, 22, 23, 24, 25, 4, 15, 16] }
def L6 : LSpec := { f := 6, p := [1, 1, 1, 1, 1, 0, 1, 0], hav := [(6, .au), (7, .au)], kill := [22, 23, 24, 25, 28, 29, 30, 31, 32, 33, 34, 35, 36, 37, 38, 39, 40, 41, 26, 27] }
end Go.Proofs.YtjhnfmfajbghbaaDoor
