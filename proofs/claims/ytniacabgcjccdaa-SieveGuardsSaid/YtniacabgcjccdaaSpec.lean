/- the contracts' forms: what each function is handed and leaves; the loops' slots -/
import Derived.Test.YtniacabgcjccdaaTab
import Derived.Test.YtniacabgcjccdaaPlain
set_option linter.unusedSimpArgs false
set_option linter.unusedVariables false
namespace Go.Proofs.Ytniacabgcjccdaa
open Go.Rex
def kNote : List Kd := [.int .i64, .int .i64, .int .i64, .int .i64, .bool, .int .i64, .int .i64]
def kWord : List Kd := [.int .i64, .int .i64, .int .i64, .int .i64, .bool]
def slW (ks : List Kd) (nv nb : Nat) : SW := .one (.sln (.var nv) { blk := nb, i1 := .lit 0, s1 := ks.length } (.var (nv + 1)) (.var (nv + 2)))
def inB (e : TypeId) (ks : List Kd) (nv : Nat) : SB := { t := e, segs := [{ r := nv + 3, n1 := .var (nv + 1), s1 := ks.length, ks := ks }], ro := true, nl := .var nv }
def outB (e : TypeId) (ks : List Kd) (nv : Nat) : SB := { t := e, segs := [{ r := nv + 3, n1 := .var (nv + 1), s1 := ks.length, ks := ks }], cap := some (.var (nv + 2), ks.length), own := true, nl := .var nv }
def L21 : LSpec := { f := 21, p := [1,0,1,0], hav := [(4, .sln 39), (5, .sln 39), (10, .au)], kill := [11, 12, 13, 7, 14, 15, 16, 17, 18, 19, 20, 5, 21, 22, 23, 24, 4, 25, 10] }
def L23 : LSpec := { f := 23, p := [1,0,1,0], hav := [(8, .au)], kill := [9, 10, 11, 5, 12, 13, 14, 15, 16, 17, 3, 18, 8] }
def slotsCon : Con := { f := 11, nv := 8, args := [slW kNote 0 0, slW kWord 4 1], hp := [inB 39 kNote 0, inB 37 kWord 4], nv' := 16, ret := .tup [slW kNote 8 2, slW kNote 12 3], hp' := [goneSB, goneSB, outB 39 kNote 8, outB 39 kNote 12] }
def kInt : List Kd := [.int .i64]
def kSpan : List Kd := [.bool, .int .i64, .int .i64]
def L24 : LSpec := { f := 24, p := [1,0,1,0], hav := [(8, .au)], kill := [9, 10, 11, 5, 12, 13, 14, 15, 16, 17, 18, 19, 20, 21, 22, 23, 24, 25, 3, 26, 8] }
def L25 : LSpec := { f := 25, p := [1,0,1,0], hav := [(8, .au)], kill := [9, 10, 11, 5, 12, 13, 14, 15, 16, 17, 18, 19, 20, 21, 22, 23, 24, 25, 26, 27, 3, 28, 8] }
def erasCon : Con := { f := 12, nv := 8, args := [slW kNote 0 0, slW kInt 4 1], hp := [inB 39 kNote 0, inB 3 kInt 4], nv' := 16, ret := .tup [slW kNote 8 2, slW kNote 12 3], hp' := [goneSB, goneSB, outB 39 kNote 8, outB 39 kNote 12] }
def spansCon : Con := { f := 13, nv := 8, args := [slW kNote 0 0, slW kSpan 4 1], hp := [inB 39 kNote 0, inB 41 kSpan 4], nv' := 16, ret := .tup [slW kNote 8 2, slW kNote 12 3], hp' := [goneSB, goneSB, outB 39 kNote 8, outB 39 kNote 12] }
def epochsCon : Con := { f := 10, nv := 8, args := [slW kNote 0 0, .one (.int .i64 (.var 4))], hp := [inB 39 kNote 0], nv' := 16, ret := .tup [slW kNote 8 1, slW kNote 12 2], hp' := [goneSB, outB 39 kNote 8, outB 39 kNote 12] }
def noteW (b : Nat) : SW := .agg [.int .i64 (.var b), .int .i64 (.var (b + 1)), .int .i64 (.var (b + 2)), .int .i64 (.var (b + 3)), .bool (.var (b + 4)), .int .i64 (.var (b + 5)), .int .i64 (.var (b + 6))]
def L14 : LSpec := { f := 14, p := [1,1,0,1,0], hav := [(5, .au), (6, .au)], kill := [7, 8, 9, 10, 13, 14, 15, 16, 17, 18, 19, 20, 5, 11, 12, 6] }
def L15 : LSpec := { f := 15, p := [1,0,1,0], hav := [(5, .au)], kill := [6, 7, 8, 9, 12, 13, 14, 15, 16, 17, 18, 19, 20, 21, 22, 23, 24, 4, 10, 11, 5] }
def L16 : LSpec := { f := 16, p := [1,1,0,1,0], hav := [(5, .au)], kill := [11, 12, 13, 14, 17, 18, 19, 20, 21, 22, 23, 24, 25, 4, 15, 16, 5] }
def awakeCon : Con := { f := 8, nv := 0, args := [], hp := [], nv' := 0, ret := .w (.one (.bool (.lit true))), hp' := [] }
def countCon : Con := { f := 14, nv := 11, args := [slW kNote 0 0, noteW 4], hp := [inB 39 kNote 0], nv' := 12, ret := .w (.one (.int .i64 (.var 11))), hp' := [goneSB] }
def inCon : Con := { f := 15, nv := 8, args := [slW kNote 0 0, slW kNote 4 1], hp := [inB 39 kNote 0, inB 39 kNote 4], nv' := 9, ret := .w (.one (.bool (.var 8))), hp' := [goneSB, goneSB] }
def sameCon : Con := { f := 16, nv := 8, args := [slW kNote 0 0, slW kNote 4 1], hp := [inB 39 kNote 0, inB 39 kNote 4], nv' := 9, ret := .w (.one (.bool (.var 8))), hp' := [goneSB, goneSB] }
def L3a : LSpec := { f := 3, p := [1,1,1,0,1,0], hav := [(5, .au)], kill := [14, 15, 19, 20, 21, 22, 18, 23, 24, 6, 7, 25, 27, 26, 29, 30, 31, 32, 28, 33, 34, 36, 35, 38, 39, 40, 41, 37, 42, 43, 45, 44, 47, 48, 49, 50, 46, 51, 52, 53, 54, 55, 56, 57, 58, 59, 60, 4, 8, 61, 62, 63, 64, 67, 68, 69, 70, 71, 72, 73, 74, 75, 76, 77, 78, 79, 80, 81, 82, 83, 84, 85, 86, 87, 88, 89, 90, 91, 92, 93, 94, 95, 96, 97, 98, 99, 100, 101, 102, 103, 104, 65, 66, 16, 17, 5] }
def L3b : LSpec := { f := 3, p := [1,1,1,0,1,0,0,1,0,0,1,1,1,1,0], hav := [(8, .au)], kill := [61, 62, 63, 64, 67, 68, 69, 70, 71, 72, 73, 74, 75, 76, 77, 78, 79, 80, 81, 82, 83, 84, 85, 86, 87, 88, 89, 90, 91, 92, 93, 94, 95, 96, 97, 98, 99, 100, 101, 102, 103, 104, 4, 65, 66, 8] }
def L6 : LSpec := { f := 6, p := [1,1,1,1,0,1,0], hav := [(8, .au)], kill := [34, 35, 39, 40, 41, 42, 38, 43, 44, 9, 10, 46, 47, 48, 49, 45, 50, 51, 11, 12, 53, 54, 55, 56, 52, 57, 58, 13, 14, 59, 60, 61, 62, 63, 64, 65, 66, 67, 68, 69, 70, 71, 72, 73, 74, 75, 76, 6, 36, 37, 8] }
def L7a : LSpec := { f := 7, p := [1,1,1,1,1,0,1,0], hav := [(8, .au)], kill := [33, 34, 35, 36, 39, 40, 41, 42, 43, 44, 45, 46, 47, 48, 49, 6, 37, 38, 8] }
def L7b : LSpec := { f := 7, p := [1,1,1,1,1,1,1,1,0,1,0], hav := [(9, .sl 3), (10, .sl 41), (11, .au)], kill := [52, 53, 54, 57, 58, 59, 60, 61, 62, 9, 63, 64, 65, 66, 67, 68, 69, 70, 71, 72, 10, 55, 56, 11] }
def fNotes : FK := .sl 39 kNote
def shNotes : Bool × List FK := (false, [fNotes])
def shKept : Bool × List FK := (true, [.sl 37 kWord, .sl 3 kInt, .sl 41 kSpan, .int .i64])
def shNote : Bool × List FK := (true, [.int .i64, .int .i64, .int .i64, .int .i64, .bool, .int .i64, .int .i64])
def shSpan : Bool × List FK := (true, [.bool, .int .i64, .int .i64])
def shInt : Bool × List FK := (false, [.int .i64])
def sh3 : List (Bool × List FK) := [shNotes, shKept]
def sh4 : List (Bool × List FK) := [shNotes, shKept, shKept]
def sh5 : List (Bool × List FK) := [shNote, shInt, shSpan, shKept]
def sh6 : List (Bool × List FK) := [shNotes, shNotes, shKept]
def sh7 : List (Bool × List FK) := [shNotes, shInt, shInt]
def lawCons : List Con := [awakeCon, slotsCon, erasCon, spansCon, epochsCon, countCon, inCon, sameCon]
end Go.Proofs.Ytniacabgcjccdaa
