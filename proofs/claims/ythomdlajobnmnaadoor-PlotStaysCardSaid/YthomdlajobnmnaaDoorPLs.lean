/- the laws' loops -/
import Derived.Test.YthomdlajobnmnaaDoorSpec
namespace Go.Proofs.YthomdlajobnmnaaDoor
open Go.Rex

def kAc : List Kd := [.int .i64, .int .i64, .int .i64, .int .i64, .int .i64, .int .i64, .int .i64, .int .i64, .bool, .int .i64, .int .i64, .int .i64, .int .i64, .bool]
def shI : Bool × List FK := (false, [.int .i64])
def shInts : Bool × List FK := (false, [.sl 3 [.int .i64]])
def shWs : Bool × List FK := (false, [.sl 31 kW])
def shAcs : Bool × List FK := (false, [.sl 39 kAc])
def shW : Bool × List FK := (true, [.int .i64, .int .i64, .int .i64, .int .i64, .bool])
def L3a : LSpec := { f := 3, p := [1, 1, 1, 1, 1, 0, 1, 0], hav := [(8, .au)], kill := [38, 39, 40, 44, 45, 46, 43, 47, 48, 9, 10, 49, 50, 51, 52, 53, 54, 55, 56, 57, 58, 59, 4, 41, 42], deep := [6], ift := 119 }
def L3b : LSpec := { f := 3, p := [1, 1, 1, 1, 1, 1, 1, 0, 1, 0], hav := [(11, .sl 3), (12, .au)], kill := [61, 62, 63, 64, 65, 66, 67, 68, 69, 70, 71, 72, 75, 76, 77, 78, 79, 80, 81, 82, 83, 84, 13, 86, 87, 88, 89, 90, 85, 91, 92, 14, 15, 93, 94, 95, 96, 97, 98, 73, 74], deep := [6], ift := 119 }
def L3c : LSpec := { f := 3, p := [1, 1, 1, 1, 1, 1, 1, 1, 0, 1, 0], hav := [(16, .au)], kill := [102, 103, 107, 108, 109, 106, 110, 111, 17, 18, 112, 113, 114, 115, 116, 117, 118, 119, 4, 104, 105], deep := [6], ift := 119 }
def L4 : LSpec := { f := 4, p := [1, 1, 1, 1, 1, 1, 1, 1, 1, 0, 1, 0], hav := [(13, .au)], kill := [63, 64, 65, 66, 67, 68, 69, 70, 73, 74, 75, 76, 14, 77, 78, 79, 80, 81, 82, 83, 84, 85, 86, 87, 88, 89, 90, 91, 92, 93, 94, 95, 96, 97, 98, 99, 100, 101, 102, 103, 104, 105, 106, 107, 108, 109, 110, 111, 112, 71, 72], deep := [7], ift := 119 }
def L5a : LSpec := { f := 5, p := [1, 1, 1, 1, 1, 0, 1, 0], hav := [(9, .au)], kill := [35, 36, 37, 38, 39, 40, 41, 42, 45, 46, 47, 48, 49, 50, 51, 52, 53, 54, 55, 56, 43, 44], deep := [5], ift := 119 }
def L5b : LSpec := { f := 5, p := [1, 1, 1, 1, 1, 1, 1, 1, 0, 1, 0], hav := [(12, .au)], kill := [70, 71, 75, 76, 77, 78, 79, 80, 81, 74, 82, 83, 13, 14, 84, 15, 85, 86, 87, 88, 89, 90, 91, 92, 93, 94, 95, 4, 72, 73] }
end Go.Proofs.YthomdlajobnmnaaDoor
