/- the contracts' forms -/
import Derived.Test.YtjhnfmfajbghbaaDoorTab
import Derived.Test.YtjhnfmfajbghbaaDoorRexUW
namespace Go.Proofs.YtjhnfmfajbghbaaDoor
open Go.Rex
/-- errors.Is(woe.At(place, x), x), x a sentinel -/
def isCon : Con := { f := 21, nv := 1, hp := [{ t := 73, cs := [.int .i64 (.var 0), .iface 85 (.ptr { blk := 1 })], ro := true }, { t := 500111, cs := [.hole], ro := true }], args := [.one (.iface 71 (.ptr { blk := 0 })), .one (.iface 85 (.ptr { blk := 1 }))], nv' := 1, ret := .w (.one (.bool (.lit true))), hp' := [goneSB, goneSB] }
def ssS : List (Nat × TypeId × TypeId) := [(1, 85, 111)]
def awakeCon : Con := { f := 8, nv := 1, gl := sentGl ssS 0, args := [], hp := sentHp 26 ssS 0, nv' := 1, ret := .w (.one (.bool (.lit true))), hp' := [goneSB, goneSB] }
def kEv : List Kd := [.int .i64, .bool, .int .i64, .int .i64, .int .i64, .int .i64, .int .i64, .int .i64]
def kBt : List Kd := [.int .i64, .bool, .int .i64, .int .i64, .int .i64, .int .i64, .bool, .bool, .int .i64, .int .i64]
def kRow : List Kd := [.int .i64, .int .i64, .int .i64, .int .i64, .int .i64, .int .i64, .int .i64, .int .i64, .int .i64, .bool]
def slW (ks : List Kd) (nv nb : Nat) : SW := .one (.sln (.var nv) { blk := nb, i1 := .lit 0, s1 := ks.length } (.var (nv + 1)) (.var (nv + 2)))
def inB (e : TypeId) (ks : List Kd) (nv : Nat) : SB := { t := e, segs := [{ r := nv + 3, n1 := .var (nv + 1), s1 := ks.length, ks := ks }], ro := true, nl := .var nv }
def outB (e : TypeId) (ks : List Kd) (nv : Nat) : SB := { t := e, segs := [{ r := nv + 3, n1 := .var (nv + 1), s1 := ks.length, ks := ks }], cap := some (.var (nv + 2), ks.length), own := true, nl := .var nv }
def eventsCon : Con := { f := 15, nv := 4, args := [slW kBt 0 0], hp := [inB 48 kBt 0], nv' := 8, ret := .w (slW kEv 4 1), hp' := [goneSB, outB 44 kEv 4] }
def alikeCon : Con := { f := 11, nv := 8, args := [slW kEv 0 0, slW kEv 4 1], hp := [inB 44 kEv 0, inB 44 kEv 4], nv' := 9, ret := .w (.one (.bool (.var 8))), hp' := [goneSB, goneSB] }
def fEv : FK := .sl 44 kEv
def fBt : FK := .sl 48 kBt
def fRow : FK := .sl 40 kRow
def shEv : Bool × List FK := (false, [fEv])
def shBt : Bool × List FK := (false, [fBt])
def shRow : Bool × List FK := (false, [fRow])
def shInt : Bool × List FK := (false, [.int .i64])
def L15 : LSpec := { f := 15, p := [1, 1, 0, 1, 0], hav := [(3, .sln 44), (8, .au)], kill := [9, 10, 11, 5, 12, 13, 14, 15, 16, 17, 18, 19, 20, 21, 22, 23, 24, 25, 26, 27, 28, 29, 30, 31, 32] }
def L11 : LSpec := { f := 11, p := [1, 1, 0, 1, 0], hav := [(5, .au)], kill := [11, 12, 13, 14, 17, 18, 19, 20, 21, 22, 23, 24, 25, 4, 15, 16] }
def L6 : LSpec := { f := 6, p := [1, 1, 1, 1, 1, 0, 1, 0], hav := [(6, .au), (7, .au)], kill := [22, 23, 24, 25, 28, 29, 30, 31, 32, 33, 34, 35, 36, 37, 38, 39, 40, 41, 26, 27] }
def ssB : List (Nat × TypeId × TypeId) := [(0, 85, 111), (1, 85, 111)]
def rowsCon : Con := { f := 9, nv := 4, gl := sentGl ssB 0, args := [slW kEv 0 4], hp := sentHp 26 ssB 0 ++ [inB 44 kEv 0], nv' := 9, ret := .tup [slW kRow 4 5, .one (.ifn (.var 8) (.iface 71 (.ptr { blk := 6 })))], hp' := [goneSB, goneSB, goneSB, goneSB, goneSB, outB 40 kRow 4, goneSB] }
def L9 : LSpec := { f := 9, p := [1, 1, 1, 0, 1, 0], hav := [(4, .sln 40), (13, .au)], kill := [14, 15, 16, 17, 7, 6, 18, 19, 20, 21, 22, 23, 24, 25, 26, 27, 28, 29, 30, 31, 32, 33, 34, 35, 36, 37, 38, 39, 2, 3, 41, 42, 43, 44, 40, 45, 46, 8, 9, 47, 48, 49, 50, 51, 52, 53, 54, 55, 56, 57, 58, 59, 60, 61, 62, 63, 64, 65, 66, 67, 68, 69, 70, 71, 72, 73, 74, 75, 76, 77, 78, 79, 80, 81, 82, 83, 84, 85, 86, 87, 88], mem := [5] }
def L4a : LSpec := { f := 4, p := [1, 1, 1, 1, 1, 0, 1, 0], hav := [(5, .au)], kill := [20, 21, 22, 23, 6, 26, 27, 28, 29, 32, 33, 34, 35, 36, 37, 38, 39, 40, 41, 42, 43, 44, 45, 46, 47, 48, 49, 50, 51, 52, 53, 54, 55, 56, 57, 58, 59, 60, 61, 62, 63, 64, 65, 66, 67, 68, 69, 70, 71, 72, 73, 74, 75, 76, 77, 78, 79, 80, 81, 2, 7, 82, 83, 84, 85, 88, 89, 90, 91, 92, 93, 94, 95, 96, 97, 98, 99, 100, 101, 102, 103, 104, 105, 106, 107, 108, 109, 110, 111, 112, 113, 114, 115, 116, 117, 118, 119, 86, 87, 30, 31, 24, 25] }
def L4b : LSpec := { f := 4, p := [1, 1, 1, 1, 1, 0, 1, 0, 0, 1, 0, 0, 1, 0], hav := [(6, .au)], kill := [26, 27, 28, 29, 32, 33, 34, 35, 36, 37, 38, 39, 40, 41, 42, 43, 44, 45, 46, 47, 48, 49, 50, 51, 52, 53, 54, 55, 56, 57, 58, 59, 60, 61, 62, 63, 64, 65, 66, 67, 68, 69, 70, 71, 72, 73, 74, 75, 76, 77, 78, 79, 80, 81, 2, 7, 82, 83, 84, 85, 88, 89, 90, 91, 92, 93, 94, 95, 96, 97, 98, 99, 100, 101, 102, 103, 104, 105, 106, 107, 108, 109, 110, 111, 112, 113, 114, 115, 116, 117, 118, 119, 86, 87, 30, 31] }
def L4c : LSpec := { f := 4, p := [1, 1, 1, 1, 1, 0, 1, 0, 0, 1, 0, 0, 1, 0, 0, 1, 0, 0, 1, 1, 0], hav := [(7, .au)], kill := [82, 83, 84, 85, 88, 89, 90, 91, 92, 93, 94, 95, 96, 97, 98, 99, 100, 101, 102, 103, 104, 105, 106, 107, 108, 109, 110, 111, 112, 113, 114, 115, 116, 117, 118, 119, 2, 86, 87] }
def wholeCon : Con := { f := 14, nv := 4, args := [slW kRow 0 0], hp := [inB 40 kRow 0], nv' := 8, ret := .w (slW kRow 4 1), hp' := [goneSB, outB 40 kRow 4] }
def equalCon : Con := { f := 26, nv := 8, args := [slW kRow 0 0, slW kRow 4 1], hp := [inB 40 kRow 0, inB 40 kRow 4], nv' := 9, ret := .w (.one (.bool (.var 8))), hp' := [goneSB, goneSB] }
def ofCon : Con := { f := 10, nv := 4, gl := sentGl ssB 0, args := [slW kRow 0 4], hp := sentHp 26 ssB 0 ++ [inB 40 kRow 0], nv' := 9, ret := .tup [slW kEv 4 5, .one (.ifn (.var 8) (.iface 85 (.ptr { blk := 1 })))], hp' := [goneSB, goneSB, goneSB, goneSB, goneSB, outB 44 kEv 4] }
def L14 : LSpec := { f := 14, p := [1, 1, 0, 1, 0], hav := [(3, .sln 40), (8, .au)], kill := [9, 10, 11, 5, 12, 13, 14, 15, 16, 17, 18] }
def L26 : LSpec := { f := 26, p := [1, 1, 0, 1, 0], hav := [(13, .au)], kill := [14, 15, 5, 16, 17, 18, 19, 20, 21, 22, 23, 24, 4, 25] }
def L10 : LSpec := { f := 10, p := [1, 1, 1, 1, 1, 0, 1, 0], hav := [(25, .au)], kill := [26, 27, 28, 9, 29, 30, 31, 32, 33, 34, 35, 36, 37, 38, 39, 2, 3, 40, 41, 42, 43, 44, 45, 46, 47, 48, 49, 50, 51, 52, 53, 54, 55], mem := [19, 21] }
def L5a : LSpec := { f := 5, p := [1, 1, 1, 1, 1, 1, 1, 0, 1, 0], hav := [(6, .sl 44), (7, .au)], kill := [29, 30, 31, 32, 8, 9, 35, 36, 37, 38, 41, 42, 43, 44, 45, 46, 47, 48, 49, 50, 51, 52, 53, 54, 55, 56, 57, 58, 39, 40, 59, 60, 61, 62, 63, 64, 65, 66, 67, 33, 34] }
def L5b : LSpec := { f := 5, p := [1, 1, 1, 1, 1, 1, 1, 0, 1, 0, 0, 1, 0, 0, 1, 0, 1, 0], hav := [(8, .au), (9, .au)], kill := [35, 36, 37, 38, 41, 42, 43, 44, 45, 46, 47, 48, 49, 50, 51, 52, 53, 54, 55, 56, 57, 58, 39, 40] }
def L5c : LSpec := { f := 5, p := [1, 1, 1, 1, 1, 1, 1, 1, 1, 1, 0, 1, 0], hav := [(12, .au)], kill := [82, 83, 84, 85, 88, 89, 90, 91, 92, 93, 94, 95, 96, 97, 98, 99, 100, 101, 102, 103, 104, 105, 106, 107, 108, 109, 110, 111, 112, 113, 114, 115, 116, 117, 118, 119, 120, 121, 122, 123, 124, 125, 126, 127, 128, 129, 130, 131, 132, 133, 134, 135, 136, 137, 138, 139, 140, 2, 13, 141, 142, 143, 144, 147, 148, 149, 150, 151, 152, 153, 154, 155, 156, 157, 158, 159, 160, 161, 162, 163, 164, 165, 145, 146, 86, 87] }
def L5d : LSpec := { f := 5, p := [1, 1, 1, 1, 1, 1, 1, 1, 1, 1, 0, 1, 0, 0, 1, 0, 0, 1, 1, 0], hav := [(13, .au)], kill := [141, 142, 143, 144, 147, 148, 149, 150, 151, 152, 153, 154, 155, 156, 157, 158, 159, 160, 161, 162, 163, 164, 165, 2, 145, 146] }
end Go.Proofs.YtjhnfmfajbghbaaDoor

namespace Go.Proofs.YtjhnfmfajbghbaaDoor
open Go.Rex
def underCon : Con := { f := 27, nv := 5, args := [slW kRow 0 0, .one (.int .i64 (.var 4))], hp := [inB 40 kRow 0], nv' := 6, ret := .w (.one (.int .i64 (.var 5))), hp' := [goneSB] }
def rRowsCon : Con := { f := 16, nv := 4, args := [slW kEv 0 0], hp := [inB 44 kEv 0], nv' := 9, ret := .tup [slW kRow 4 1, .one (.int .i64 (.var 8))], hp' := [goneSB, outB 40 kRow 4] }
def rOfCon : Con := { f := 17, nv := 4, args := [slW kRow 0 0], hp := [inB 40 kRow 0], nv' := 9, ret := .tup [slW kEv 4 1, .one (.bool (.var 8))], hp' := [goneSB, outB 44 kEv 4] }
def rEventsCon : Con := { f := 18, nv := 4, args := [slW kBt 0 0], hp := [inB 48 kBt 0], nv' := 8, ret := .w (slW kEv 4 1), hp' := [goneSB, outB 44 kEv 4] }
def rSameCon : Con := { f := 19, nv := 8, args := [slW kRow 0 0, slW kRow 4 1], hp := [inB 40 kRow 0, inB 40 kRow 4], nv' := 9, ret := .w (.one (.bool (.var 8))), hp' := [goneSB, goneSB] }
def rWholeCon : Con := { f := 22, nv := 4, args := [slW kRow 0 0], hp := [inB 40 kRow 0], nv' := 8, ret := .w (slW kRow 4 1), hp' := [goneSB, outB 40 kRow 4] }
def ss5 : List (Nat × TypeId × TypeId) := [(0, 85, 111), (1, 85, 111), (2, 85, 111), (3, 85, 111), (4, 85, 111)]
def codeCon (b : Nat) (n : Int) : Con := { f := 20, nv := 1, gl := sentGl ss5 0, args := [.one (.iface 71 (.ptr { blk := 10 }))], hp := sentHp 26 ss5 0 ++ [{ t := 73, cs := [.int .i64 (.var 0), .iface 85 (.ptr { blk := b })] }], nv' := 1, ret := .w (.one (.int .i64 (.lit n))), hp' := (sentHp 26 ss5 0 ++ [goneSB]).map fun _ => goneSB }
def selfCon : Con := { f := 21, nv := 1, args := [.one (.iface 85 (.ptr { blk := 0 })), .one (.iface 85 (.ptr { blk := 0 }))], hp := [{ t := 500111, cs := [.hole], ro := true }], nv' := 1, ret := .w (.one (.bool (.lit true))), hp' := [goneSB] }
/-- Rows that answers an error: the error with a number of its own -/
def rowsBad (b : Nat) : Con := { f := 9, nv := 4, gl := sentGl ssB 0, args := [slW kEv 0 4], hp := sentHp 26 ssB 0 ++ [inB 44 kEv 0], nv' := 5, ret := .tup [.one .nilsl, .one (.iface 71 (.ptr { blk := 5 }))], hp' := [goneSB, goneSB, goneSB, goneSB, goneSB, { t := 73, cs := [.int .i64 (.var 4), .iface 85 (.ptr { blk := b })], own := true }] }
def rowsGood : Con := { f := 9, nv := 4, gl := sentGl ssB 0, args := [slW kEv 0 4], hp := sentHp 26 ssB 0 ++ [inB 44 kEv 0], nv' := 8, ret := .tup [slW kRow 4 5, .one .nilif], hp' := [goneSB, goneSB, goneSB, goneSB, goneSB, outB 40 kRow 4] }
def L27 : LSpec := { f := 27, p := [1, 0, 1, 0], hav := [(5, .au)], kill := [6, 7, 8, 9, 12, 13, 14, 15, 16, 17, 18, 19, 20, 21, 22, 23, 24, 25, 26, 27, 4, 10, 11] }
def L16 : LSpec := { f := 16, p := [1, 1, 0, 1, 0], hav := [(4, .sln 40), (5, .au)], kill := [9, 10, 11, 12, 15, 16, 17, 18, 6, 19, 20, 21, 22, 7, 23, 24, 25, 26, 27, 28, 29, 30, 31, 32, 33, 34, 35, 36, 37, 38, 39, 40, 41, 2, 3, 42, 43, 44, 45, 46, 47, 48, 49, 50, 51, 52, 53, 54, 55, 56, 57, 58, 59, 60, 61, 62, 63, 64, 65, 66, 67, 68, 69, 70, 71, 72, 13, 14] }
def L17a : LSpec := { f := 17, p := [1, 1, 0, 1, 0], hav := [(4, .au), (5, .au)], kill := [14, 15, 16, 17, 20, 21, 22, 23, 24, 25, 26, 18, 19] }
def L17b : LSpec := { f := 17, p := [1, 1, 1, 1, 1, 0, 1, 0], hav := [(8, .au)], kill := [31, 32, 33, 34, 37, 38, 39, 40, 9, 41, 42, 43, 44, 45, 46, 47, 48, 49, 50, 51, 52, 53, 54, 55, 56, 2, 3, 57, 58, 59, 60, 61, 62, 63, 64, 65, 66, 67, 68, 69, 70, 71, 72, 73, 74, 75, 76, 77, 78, 79, 80, 81, 82, 83, 84, 85, 86, 87, 88, 89, 90, 91, 92, 93, 94, 95, 96, 97, 98, 99, 100, 101, 35, 36], mem := [6, 7] }
def L18 : LSpec := { f := 18, p := [1, 1, 0, 1, 0], hav := [(3, .sln 44), (4, .au)], kill := [6, 7, 8, 9, 12, 13, 14, 15, 16, 17, 18, 19, 20, 21, 22, 23, 24, 25, 26, 27, 28, 29, 30, 31, 32, 33, 34, 35, 36, 37, 38, 39, 40, 41, 42, 43, 44, 45, 46, 47, 48, 49, 10, 11] }
def L19 : LSpec := { f := 19, p := [1, 1, 0, 1, 0], hav := [(5, .au)], kill := [11, 12, 13, 14, 17, 18, 19, 20, 21, 22, 23, 24, 25, 4, 15, 16] }
def L22 : LSpec := { f := 22, p := [1, 1, 0, 1, 0], hav := [(3, .sln 40), (4, .au)], kill := [6, 7, 8, 9, 12, 13, 14, 15, 16, 17, 18, 19, 20, 21, 22, 23, 10, 11] }
def L7a : LSpec := { f := 7, p := [1, 1, 1, 1, 1, 1, 1, 1, 0, 1, 0], hav := [(15, .au)], kill := [100, 101, 102, 103, 104, 105, 106, 107, 16, 110, 111, 112, 113, 114, 115, 116, 117, 120, 121, 122, 123, 124, 125, 126, 127, 128, 129, 130, 131, 132, 133, 134, 135, 136, 137, 138, 6, 118, 119, 108, 109] }
def L7b : LSpec := { f := 7, p := [1, 1, 1, 1, 1, 1, 1, 1, 0, 1, 0, 0, 1, 0, 0, 1, 0], hav := [(16, .au)], kill := [110, 111, 112, 113, 114, 115, 116, 117, 120, 121, 122, 123, 124, 125, 126, 127, 128, 129, 130, 131, 132, 133, 134, 135, 136, 137, 138, 6, 118, 119] }
end Go.Proofs.YtjhnfmfajbghbaaDoor
