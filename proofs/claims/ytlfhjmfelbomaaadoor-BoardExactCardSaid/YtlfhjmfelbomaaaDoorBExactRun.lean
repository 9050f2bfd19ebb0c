/- 'BoardExact': its run, in pieces -/
import Derived.Test.YtlfhjmfelbomaaaDoorBArith
import Derived.Test.YtlfhjmfelbomaaaDoorRexV
set_option linter.unusedSimpArgs false
set_option linter.unusedVariables false
namespace Go.Proofs.YtlfhjmfelbomaaaDoor
open Go.Rex
def shE : List (Bool × List FK) := [shI, shI, shAddr]
noncomputable def exact_E : Ex := { sched := sched, loops := [], cons := [isCon, awakeCon1], fin := lawConG 27 ss2 4 shE }
def ex_c0 : Cfg := cfg0 4 (lawConG 27 ss2 4 shE).nv [] (sentGl ss2 0) (lawConG 27 ss2 4 shE).hp (lawConG 27 ss2 4 shE).args
def ex_c1 : Cfg := { nv := 5, kn := [((.and (.ile (.lit 0) (.var 1)) (.ilt (.var 1) (.lit 24))), false), ((.ieq (.var 2) (.lit 0)), false), ((.and (.ile (.lit 0) (.var 0)) (.ilt (.var 0) (.lit 6))), false), ((.or (.ilt (.var 1) (.lit 0)) (.ile (.lit 24) (.var 1))), true)],  gl := [(1, 0), (0, 2)], hp := [{ t := 27, cs := [.iface 75 (.ptr { blk := 1 })], ro := true }, { t := 100, cs := [.hole], ro := true }, { t := 27, cs := [.iface 75 (.ptr { blk := 3 })], ro := true }, { t := 100, cs := [.hole], ro := true }, { t := 25, cs := [.int .i64 (.var 2), .int .i64 (.var 3), .int .i64 (.var 4)], own := true }, { t := 25, cs := [.int .i64 (.lit 0), .int .i64 (.lit 0), .int .i64 (.lit 0)], own := true }, { t := 63, cs := [.int .i64 (.lit 4), .iface 75 (.ptr { blk := 1 })], own := true }, { t := 25, cs := [.int .i64 (.lit 0), .int .i64 (.lit 0), .int .i64 (.lit 0)], own := true }, { t := 25, cs := [.int .i64 (.lit 0), .int .i64 (.lit 0), .int .i64 (.lit 0)], own := true }, { t := 63, cs := [.int .i64 (.lit 4), .iface 75 (.ptr { blk := 1 })], own := true }, { t := 25, cs := [.int .i64 (.lit 0), .int .i64 (.lit 0), .int .i64 (.lit 0)], own := true }, { t := 25, cs := [.int .i64 (.lit 0), .int .i64 (.lit 0), .int .i64 (.lit 0)], own := true }, { t := 63, cs := [.int .i64 (.lit 4), .iface 75 (.ptr { blk := 1 })], own := true }, { t := 25, cs := [.int .i64 (.lit 0), .int .i64 (.lit 0), .int .i64 (.lit 0)], own := true }, { t := 25, cs := [.int .i64 (.var 2), .int .i64 (.var 3), .int .i64 (.var 4)], own := true }, { t := 63, cs := [.int .i64 (.lit 4), .iface 75 (.ptr { blk := 3 })], own := true }, { t := 25, cs := [.int .i64 (.var 2), .int .i64 (.var 3), .int .i64 (.var 4)], own := true }],  top := { f := 17, fr := [(5, .w (.one (.bool (.not (.and (.ile (.lit 0) (.var 1)) (.ilt (.var 1) (.lit 24))))))), (4, .w (.one (.bool (.and (.ile (.lit 0) (.var 1)) (.ilt (.var 1) (.lit 24)))))), (3, .w (.one (.int .i64 (.var 1)))), (2, .w (.one (.int .i64 (.lit 0)))), (0, .w (.one (.int .i64 (.var 1))))], cur := .none, todo := [.code [1, 0, 1], .code [1, 1]] },  stk := [({ f := 4, fr := [(51, .w (.agg [.int .i64 (.lit 0), .int .i64 (.lit 0), .int .i64 (.lit 0)])), (53, .w (.one (.int .i64 (.var 1)))), (52, .w (.one (.iface 61 (.ptr { blk := 6 })))), (19, .w (.one (.int .i64 (.lit 0)))), (18, .w (.one (.int .i64 (.lit 0)))), (17, .w (.one (.str []))), (50, .w (.one (.int .i64 (.lit 0)))), (49, .w (.one (.int .i64 (.lit 0)))), (48, .w (.one (.str []))), (45, .tup [.one (.str []), .one (.int .i64 (.lit 0)), .one (.int .i64 (.lit 0))]), (47, .tup [.one (.str []), .one (.int .i64 (.lit 0)), .one (.int .i64 (.lit 0))]), (46, .w (.agg [.int .i64 (.var 2), .int .i64 (.var 3), .int .i64 (.var 4)])), (16, .w (.one (.iface 61 (.ptr { blk := 15 })))), (15, .w (.one (.int .i64 (.lit 0)))), (14, .w (.one (.int .i64 (.lit 0)))), (13, .w (.one (.str []))), (44, .w (.one (.iface 61 (.ptr { blk := 15 })))), (43, .w (.one (.int .i64 (.lit 0)))), (42, .w (.one (.int .i64 (.lit 0)))), (41, .w (.one (.str []))), (38, .tup [.one (.str []), .one (.int .i64 (.lit 0)), .one (.int .i64 (.lit 0)), .one (.iface 61 (.ptr { blk := 15 }))]), (40, .tup [.one (.str []), .one (.int .i64 (.lit 0)), .one (.int .i64 (.lit 0)), .one (.iface 61 (.ptr { blk := 15 }))]), (39, .w (.agg [.int .i64 (.var 2), .int .i64 (.var 3), .int .i64 (.var 4)])), (12, .w (.one (.iface 61 (.ptr { blk := 12 })))), (11, .w (.one (.ptr { blk := 13 }))), (37, .w (.one (.iface 61 (.ptr { blk := 12 })))), (36, .w (.agg [.int .i64 (.lit 0), .int .i64 (.lit 0), .int .i64 (.lit 0)])), (33, .tup [.agg [.int .i64 (.lit 0), .int .i64 (.lit 0), .int .i64 (.lit 0)], .one (.iface 61 (.ptr { blk := 12 }))]), (35, .tup [.agg [.int .i64 (.lit 0), .int .i64 (.lit 0), .int .i64 (.lit 0)], .one (.iface 61 (.ptr { blk := 12 }))]), (34, .w (.one (.int .i64 (.var 0)))), (10, .w (.one (.iface 61 (.ptr { blk := 9 })))), (9, .w (.one (.ptr { blk := 10 }))), (32, .w (.one (.iface 61 (.ptr { blk := 9 })))), (31, .w (.agg [.int .i64 (.lit 0), .int .i64 (.lit 0), .int .i64 (.lit 0)])), (27, .tup [.agg [.int .i64 (.lit 0), .int .i64 (.lit 0), .int .i64 (.lit 0)], .one (.iface 61 (.ptr { blk := 9 }))]), (30, .tup [.agg [.int .i64 (.lit 0), .int .i64 (.lit 0), .int .i64 (.lit 0)], .one (.iface 61 (.ptr { blk := 9 }))]), (29, .w (.one (.int .i64 (.var 1)))), (28, .w (.one (.int .i64 (.var 0)))), (8, .w (.one (.iface 61 (.ptr { blk := 6 })))), (7, .w (.one (.ptr { blk := 7 }))), (26, .w (.one (.iface 61 (.ptr { blk := 6 })))), (25, .w (.agg [.int .i64 (.lit 0), .int .i64 (.lit 0), .int .i64 (.lit 0)])), (22, .tup [.agg [.int .i64 (.lit 0), .int .i64 (.lit 0), .int .i64 (.lit 0)], .one (.iface 61 (.ptr { blk := 6 }))]), (24, .tup [.agg [.int .i64 (.lit 0), .int .i64 (.lit 0), .int .i64 (.lit 0)], .one (.iface 61 (.ptr { blk := 6 }))]), (23, .w (.one (.int .i64 (.var 1)))), (21, .w (.one (.bool (.lit false)))), (20, .w (.one (.bool (.lit true)))), (6, .w (.one (.bool (.lit false)))), (5, .w (.one (.ptr { blk := 4 }))), (0, .w (.one (.int .i64 (.var 0)))), (1, .w (.one (.int .i64 (.var 1)))), (2, .w (.agg [.int .i64 (.var 2), .int .i64 (.var 3), .int .i64 (.var 4)]))], cur := .dr [1, 1, 1, 1, 1, 1, 1, 0] (.solo 3 <| .solo 4 <| .solo 5 <| .take 7 <| .take 8 <| .take 9 <| .take 6 <| .solo 10 <| .solo 11 <| .solo 12 <| .solo 13 <| .take 15 <| .take 16 <| .take 14 <| .solo 17 <| .solo 18 <| .solo 19 <| .solo 20 <| .take 21 <| .solo 22 <| .solo 23 <| .solo 24 <| .solo 25 <| .take 26 <| .solo 27 <| .solo 28 <| .solo 29 <| .solo 30 <| .take 31 <| .solo 32 <| .solo 33 <| .solo 34 <| .solo 35 <| .take 36 <| .take 37 <| .solo 38 <| .solo 39 <| .solo 40 <| .solo 41 <| .solo 42 <| .solo 43 <| .solo 44 <| .solo 45 <| .take 46 <| .solo 47 <| .solo 48 <| .solo 49 <| .solo 50 <| .solo 51 <| .nil) [{ t := 0, gone := true }, { t := 0, gone := true }, { t := 0, gone := true }, { t := 0, gone := true }, { t := 0, gone := true }, { t := 0, gone := true }, { t := 0, gone := true }, { t := 25, cs := [.int .i64 (.lit 0), .int .i64 (.lit 0), .int .i64 (.lit 0)], own := true }] false, todo := [.code [1, 1, 1, 1, 1, 1, 1, 1]] }, 3)] }
def ex_c2 : Cfg := { nv := 5, kn := [((.ile (.lit 0) (.var 1)), true), ((.ilt (.var 1) (.lit 24)), true), ((.ieq (.var 2) (.lit 0)), false), ((.and (.ile (.lit 0) (.var 0)) (.ilt (.var 0) (.lit 6))), false), ((.or (.ilt (.var 1) (.lit 0)) (.ile (.lit 24) (.var 1))), true)],  gl := [(1, 0), (0, 2)], hp := [{ t := 27, cs := [.iface 75 (.ptr { blk := 1 })], ro := true }, { t := 100, cs := [.hole], ro := true }, { t := 27, cs := [.iface 75 (.ptr { blk := 3 })], ro := true }, { t := 100, cs := [.hole], ro := true }, { t := 25, cs := [.int .i64 (.var 2), .int .i64 (.var 3), .int .i64 (.var 4)], own := true }, { t := 25, cs := [.int .i64 (.lit 0), .int .i64 (.lit 0), .int .i64 (.lit 0)], own := true }, { t := 63, cs := [.int .i64 (.lit 4), .iface 75 (.ptr { blk := 1 })], own := true }, { t := 25, cs := [.int .i64 (.lit 0), .int .i64 (.lit 0), .int .i64 (.lit 0)], own := true }, { t := 25, cs := [.int .i64 (.lit 0), .int .i64 (.lit 0), .int .i64 (.lit 0)], own := true }, { t := 63, cs := [.int .i64 (.lit 4), .iface 75 (.ptr { blk := 1 })], own := true }, { t := 25, cs := [.int .i64 (.lit 0), .int .i64 (.lit 0), .int .i64 (.lit 0)], own := true }, { t := 25, cs := [.int .i64 (.lit 0), .int .i64 (.lit 0), .int .i64 (.lit 0)], own := true }, { t := 63, cs := [.int .i64 (.lit 4), .iface 75 (.ptr { blk := 1 })], own := true }, { t := 25, cs := [.int .i64 (.lit 0), .int .i64 (.lit 0), .int .i64 (.lit 0)], own := true }, { t := 25, cs := [.int .i64 (.var 2), .int .i64 (.var 3), .int .i64 (.var 4)], own := true }, { t := 63, cs := [.int .i64 (.lit 4), .iface 75 (.ptr { blk := 3 })], own := true }, { t := 25, cs := [.int .i64 (.var 2), .int .i64 (.var 3), .int .i64 (.var 4)], own := true }],  top := { f := 17, fr := [(5, .w (.one (.bool (.not (.and (.ile (.lit 0) (.var 1)) (.ilt (.var 1) (.lit 24))))))), (4, .w (.one (.bool (.and (.ile (.lit 0) (.var 1)) (.ilt (.var 1) (.lit 24)))))), (3, .w (.one (.int .i64 (.var 1)))), (2, .w (.one (.int .i64 (.lit 0)))), (0, .w (.one (.int .i64 (.var 1))))], cur := .none, todo := [.code [1, 0, 1], .code [1, 1]] },  stk := [({ f := 4, fr := [(51, .w (.agg [.int .i64 (.lit 0), .int .i64 (.lit 0), .int .i64 (.lit 0)])), (53, .w (.one (.int .i64 (.var 1)))), (52, .w (.one (.iface 61 (.ptr { blk := 6 })))), (19, .w (.one (.int .i64 (.lit 0)))), (18, .w (.one (.int .i64 (.lit 0)))), (17, .w (.one (.str []))), (50, .w (.one (.int .i64 (.lit 0)))), (49, .w (.one (.int .i64 (.lit 0)))), (48, .w (.one (.str []))), (45, .tup [.one (.str []), .one (.int .i64 (.lit 0)), .one (.int .i64 (.lit 0))]), (47, .tup [.one (.str []), .one (.int .i64 (.lit 0)), .one (.int .i64 (.lit 0))]), (46, .w (.agg [.int .i64 (.var 2), .int .i64 (.var 3), .int .i64 (.var 4)])), (16, .w (.one (.iface 61 (.ptr { blk := 15 })))), (15, .w (.one (.int .i64 (.lit 0)))), (14, .w (.one (.int .i64 (.lit 0)))), (13, .w (.one (.str []))), (44, .w (.one (.iface 61 (.ptr { blk := 15 })))), (43, .w (.one (.int .i64 (.lit 0)))), (42, .w (.one (.int .i64 (.lit 0)))), (41, .w (.one (.str []))), (38, .tup [.one (.str []), .one (.int .i64 (.lit 0)), .one (.int .i64 (.lit 0)), .one (.iface 61 (.ptr { blk := 15 }))]), (40, .tup [.one (.str []), .one (.int .i64 (.lit 0)), .one (.int .i64 (.lit 0)), .one (.iface 61 (.ptr { blk := 15 }))]), (39, .w (.agg [.int .i64 (.var 2), .int .i64 (.var 3), .int .i64 (.var 4)])), (12, .w (.one (.iface 61 (.ptr { blk := 12 })))), (11, .w (.one (.ptr { blk := 13 }))), (37, .w (.one (.iface 61 (.ptr { blk := 12 })))), (36, .w (.agg [.int .i64 (.lit 0), .int .i64 (.lit 0), .int .i64 (.lit 0)])), (33, .tup [.agg [.int .i64 (.lit 0), .int .i64 (.lit 0), .int .i64 (.lit 0)], .one (.iface 61 (.ptr { blk := 12 }))]), (35, .tup [.agg [.int .i64 (.lit 0), .int .i64 (.lit 0), .int .i64 (.lit 0)], .one (.iface 61 (.ptr { blk := 12 }))]), (34, .w (.one (.int .i64 (.var 0)))), (10, .w (.one (.iface 61 (.ptr { blk := 9 })))), (9, .w (.one (.ptr { blk := 10 }))), (32, .w (.one (.iface 61 (.ptr { blk := 9 })))), (31, .w (.agg [.int .i64 (.lit 0), .int .i64 (.lit 0), .int .i64 (.lit 0)])), (27, .tup [.agg [.int .i64 (.lit 0), .int .i64 (.lit 0), .int .i64 (.lit 0)], .one (.iface 61 (.ptr { blk := 9 }))]), (30, .tup [.agg [.int .i64 (.lit 0), .int .i64 (.lit 0), .int .i64 (.lit 0)], .one (.iface 61 (.ptr { blk := 9 }))]), (29, .w (.one (.int .i64 (.var 1)))), (28, .w (.one (.int .i64 (.var 0)))), (8, .w (.one (.iface 61 (.ptr { blk := 6 })))), (7, .w (.one (.ptr { blk := 7 }))), (26, .w (.one (.iface 61 (.ptr { blk := 6 })))), (25, .w (.agg [.int .i64 (.lit 0), .int .i64 (.lit 0), .int .i64 (.lit 0)])), (22, .tup [.agg [.int .i64 (.lit 0), .int .i64 (.lit 0), .int .i64 (.lit 0)], .one (.iface 61 (.ptr { blk := 6 }))]), (24, .tup [.agg [.int .i64 (.lit 0), .int .i64 (.lit 0), .int .i64 (.lit 0)], .one (.iface 61 (.ptr { blk := 6 }))]), (23, .w (.one (.int .i64 (.var 1)))), (21, .w (.one (.bool (.lit false)))), (20, .w (.one (.bool (.lit true)))), (6, .w (.one (.bool (.lit false)))), (5, .w (.one (.ptr { blk := 4 }))), (0, .w (.one (.int .i64 (.var 0)))), (1, .w (.one (.int .i64 (.var 1)))), (2, .w (.agg [.int .i64 (.var 2), .int .i64 (.var 3), .int .i64 (.var 4)]))], cur := .dr [1, 1, 1, 1, 1, 1, 1, 0] (.solo 3 <| .solo 4 <| .solo 5 <| .take 7 <| .take 8 <| .take 9 <| .take 6 <| .solo 10 <| .solo 11 <| .solo 12 <| .solo 13 <| .take 15 <| .take 16 <| .take 14 <| .solo 17 <| .solo 18 <| .solo 19 <| .solo 20 <| .take 21 <| .solo 22 <| .solo 23 <| .solo 24 <| .solo 25 <| .take 26 <| .solo 27 <| .solo 28 <| .solo 29 <| .solo 30 <| .take 31 <| .solo 32 <| .solo 33 <| .solo 34 <| .solo 35 <| .take 36 <| .take 37 <| .solo 38 <| .solo 39 <| .solo 40 <| .solo 41 <| .solo 42 <| .solo 43 <| .solo 44 <| .solo 45 <| .take 46 <| .solo 47 <| .solo 48 <| .solo 49 <| .solo 50 <| .solo 51 <| .nil) [{ t := 0, gone := true }, { t := 0, gone := true }, { t := 0, gone := true }, { t := 0, gone := true }, { t := 0, gone := true }, { t := 0, gone := true }, { t := 0, gone := true }, { t := 25, cs := [.int .i64 (.lit 0), .int .i64 (.lit 0), .int .i64 (.lit 0)], own := true }] false, todo := [.code [1, 1, 1, 1, 1, 1, 1, 1]] }, 3)] }
def ex_c3 : Cfg := { nv := 5, kn := [((.ieq (.var 3) (.lit 0)), false), ((.ieq (.var 2) (.lit 0)), true), ((.and (.ile (.lit 0) (.var 0)) (.ilt (.var 0) (.lit 6))), false), ((.or (.ilt (.var 1) (.lit 0)) (.ile (.lit 24) (.var 1))), true)],  gl := [(1, 0), (0, 2)], hp := [{ t := 27, cs := [.iface 75 (.ptr { blk := 1 })], ro := true }, { t := 100, cs := [.hole], ro := true }, { t := 27, cs := [.iface 75 (.ptr { blk := 3 })], ro := true }, { t := 100, cs := [.hole], ro := true }, { t := 25, cs := [.int .i64 (.var 2), .int .i64 (.var 3), .int .i64 (.var 4)], own := true }, { t := 25, cs := [.int .i64 (.lit 0), .int .i64 (.lit 0), .int .i64 (.lit 0)], own := true }, { t := 63, cs := [.int .i64 (.lit 4), .iface 75 (.ptr { blk := 1 })], own := true }, { t := 25, cs := [.int .i64 (.lit 0), .int .i64 (.lit 0), .int .i64 (.lit 0)], own := true }, { t := 25, cs := [.int .i64 (.lit 0), .int .i64 (.lit 0), .int .i64 (.lit 0)], own := true }, { t := 63, cs := [.int .i64 (.lit 4), .iface 75 (.ptr { blk := 1 })], own := true }, { t := 25, cs := [.int .i64 (.lit 0), .int .i64 (.lit 0), .int .i64 (.lit 0)], own := true }, { t := 25, cs := [.int .i64 (.lit 0), .int .i64 (.lit 0), .int .i64 (.lit 0)], own := true }, { t := 63, cs := [.int .i64 (.lit 4), .iface 75 (.ptr { blk := 1 })], own := true }, { t := 25, cs := [.int .i64 (.lit 0), .int .i64 (.lit 0), .int .i64 (.lit 0)], own := true }, { t := 25, cs := [.int .i64 (.var 2), .int .i64 (.var 3), .int .i64 (.var 4)], own := true }],  top := { f := 14, fr := [(20, .gd (.ieq (.var 3) (.lit 0)) (.one (.bool (.ilt (.var 4) (.lit 0))))), (19, .gd (.ieq (.var 3) (.lit 0)) (.one (.int .i64 (.var 4)))), (18, .w (.one (.bool (.not (.ieq (.var 3) (.lit 0)))))), (17, .w (.one (.bool (.not (.ieq (.var 3) (.lit 0)))))), (16, .gd (.ieq (.var 2) (.lit 0)) (.one (.bool (.not (.ieq (.var 3) (.lit 0)))))), (15, .gd (.ieq (.var 2) (.lit 0)) (.one (.int .i64 (.var 3)))), (14, .gd (.ieq (.var 2) (.lit 0)) (.one (.ptr { blk := 14, j := 1 }))), (13, .w (.one (.bool (.not (.ieq (.var 2) (.lit 0)))))), (12, .w (.one (.bool (.not (.ieq (.var 2) (.lit 0)))))), (11, .w (.one (.int .i64 (.var 2)))), (10, .w (.one (.ptr { blk := 14 }))), (6, .w (.one (.int .i64 (.var 4)))), (8, .w (.one (.int .i64 (.var 4)))), (7, .w (.one (.ptr { blk := 14, j := 2 }))), (5, .w (.one (.nilif))), (4, .w (.one (.int .i64 (.lit 0)))), (3, .w (.one (.int .i64 (.lit 0)))), (2, .w (.one (.str []))), (1, .w (.one (.ptr { blk := 14 }))), (0, .w (.agg [.int .i64 (.var 2), .int .i64 (.var 3), .int .i64 (.var 4)]))], cur := .reg [1, 1, 0, 0, 0] 11, todo := [.code [1, 1, 0, 0, 1], .blk 0, .code [1, 1, 1]] },  stk := [({ f := 4, fr := [(39, .w (.agg [.int .i64 (.var 2), .int .i64 (.var 3), .int .i64 (.var 4)])), (12, .w (.one (.iface 61 (.ptr { blk := 12 })))), (11, .w (.one (.ptr { blk := 13 }))), (37, .w (.one (.iface 61 (.ptr { blk := 12 })))), (36, .w (.agg [.int .i64 (.lit 0), .int .i64 (.lit 0), .int .i64 (.lit 0)])), (33, .tup [.agg [.int .i64 (.lit 0), .int .i64 (.lit 0), .int .i64 (.lit 0)], .one (.iface 61 (.ptr { blk := 12 }))]), (35, .tup [.agg [.int .i64 (.lit 0), .int .i64 (.lit 0), .int .i64 (.lit 0)], .one (.iface 61 (.ptr { blk := 12 }))]), (34, .w (.one (.int .i64 (.var 0)))), (10, .w (.one (.iface 61 (.ptr { blk := 9 })))), (9, .w (.one (.ptr { blk := 10 }))), (32, .w (.one (.iface 61 (.ptr { blk := 9 })))), (31, .w (.agg [.int .i64 (.lit 0), .int .i64 (.lit 0), .int .i64 (.lit 0)])), (27, .tup [.agg [.int .i64 (.lit 0), .int .i64 (.lit 0), .int .i64 (.lit 0)], .one (.iface 61 (.ptr { blk := 9 }))]), (30, .tup [.agg [.int .i64 (.lit 0), .int .i64 (.lit 0), .int .i64 (.lit 0)], .one (.iface 61 (.ptr { blk := 9 }))]), (29, .w (.one (.int .i64 (.var 1)))), (28, .w (.one (.int .i64 (.var 0)))), (8, .w (.one (.iface 61 (.ptr { blk := 6 })))), (7, .w (.one (.ptr { blk := 7 }))), (26, .w (.one (.iface 61 (.ptr { blk := 6 })))), (25, .w (.agg [.int .i64 (.lit 0), .int .i64 (.lit 0), .int .i64 (.lit 0)])), (22, .tup [.agg [.int .i64 (.lit 0), .int .i64 (.lit 0), .int .i64 (.lit 0)], .one (.iface 61 (.ptr { blk := 6 }))]), (24, .tup [.agg [.int .i64 (.lit 0), .int .i64 (.lit 0), .int .i64 (.lit 0)], .one (.iface 61 (.ptr { blk := 6 }))]), (23, .w (.one (.int .i64 (.var 1)))), (21, .w (.one (.bool (.lit false)))), (20, .w (.one (.bool (.lit true)))), (6, .w (.one (.bool (.lit false)))), (5, .w (.one (.ptr { blk := 4 }))), (0, .w (.one (.int .i64 (.var 0)))), (1, .w (.one (.int .i64 (.var 1)))), (2, .w (.agg [.int .i64 (.var 2), .int .i64 (.var 3), .int .i64 (.var 4)]))], cur := .reg [1, 1, 1, 1, 1, 0] 1, todo := [.code [1, 1, 1, 1, 1, 1]] }, 1)] }
def ex_c4 : Cfg := { nv := 5, kn := [((.ieq (.var 3) (.lit 0)), true), ((.ieq (.var 2) (.lit 0)), true), ((.and (.ile (.lit 0) (.var 0)) (.ilt (.var 0) (.lit 6))), false), ((.or (.ilt (.var 1) (.lit 0)) (.ile (.lit 24) (.var 1))), true)],  gl := [(1, 0), (0, 2)], hp := [{ t := 27, cs := [.iface 75 (.ptr { blk := 1 })], ro := true }, { t := 100, cs := [.hole], ro := true }, { t := 27, cs := [.iface 75 (.ptr { blk := 3 })], ro := true }, { t := 100, cs := [.hole], ro := true }, { t := 25, cs := [.int .i64 (.var 2), .int .i64 (.var 3), .int .i64 (.var 4)], own := true }, { t := 25, cs := [.int .i64 (.lit 0), .int .i64 (.lit 0), .int .i64 (.lit 0)], own := true }, { t := 63, cs := [.int .i64 (.lit 4), .iface 75 (.ptr { blk := 1 })], own := true }, { t := 25, cs := [.int .i64 (.lit 0), .int .i64 (.lit 0), .int .i64 (.lit 0)], own := true }, { t := 25, cs := [.int .i64 (.lit 0), .int .i64 (.lit 0), .int .i64 (.lit 0)], own := true }, { t := 63, cs := [.int .i64 (.lit 4), .iface 75 (.ptr { blk := 1 })], own := true }, { t := 25, cs := [.int .i64 (.lit 0), .int .i64 (.lit 0), .int .i64 (.lit 0)], own := true }, { t := 25, cs := [.int .i64 (.lit 0), .int .i64 (.lit 0), .int .i64 (.lit 0)], own := true }, { t := 63, cs := [.int .i64 (.lit 4), .iface 75 (.ptr { blk := 1 })], own := true }, { t := 25, cs := [.int .i64 (.lit 0), .int .i64 (.lit 0), .int .i64 (.lit 0)], own := true }, { t := 25, cs := [.int .i64 (.var 2), .int .i64 (.var 3), .int .i64 (.var 4)], own := true }],  top := { f := 14, fr := [(20, .gd (.ieq (.var 3) (.lit 0)) (.one (.bool (.ilt (.var 4) (.lit 0))))), (19, .gd (.ieq (.var 3) (.lit 0)) (.one (.int .i64 (.var 4)))), (18, .w (.one (.bool (.not (.ieq (.var 3) (.lit 0)))))), (17, .w (.one (.bool (.not (.ieq (.var 3) (.lit 0)))))), (16, .gd (.ieq (.var 2) (.lit 0)) (.one (.bool (.not (.ieq (.var 3) (.lit 0)))))), (15, .gd (.ieq (.var 2) (.lit 0)) (.one (.int .i64 (.var 3)))), (14, .gd (.ieq (.var 2) (.lit 0)) (.one (.ptr { blk := 14, j := 1 }))), (13, .w (.one (.bool (.not (.ieq (.var 2) (.lit 0)))))), (12, .w (.one (.bool (.not (.ieq (.var 2) (.lit 0)))))), (11, .w (.one (.int .i64 (.var 2)))), (10, .w (.one (.ptr { blk := 14 }))), (6, .w (.one (.int .i64 (.var 4)))), (8, .w (.one (.int .i64 (.var 4)))), (7, .w (.one (.ptr { blk := 14, j := 2 }))), (5, .w (.one (.nilif))), (4, .w (.one (.int .i64 (.lit 0)))), (3, .w (.one (.int .i64 (.lit 0)))), (2, .w (.one (.str []))), (1, .w (.one (.ptr { blk := 14 }))), (0, .w (.agg [.int .i64 (.var 2), .int .i64 (.var 3), .int .i64 (.var 4)]))], cur := .reg [1, 1, 0, 0, 0] 11, todo := [.code [1, 1, 0, 0, 1], .blk 0, .code [1, 1, 1]] },  stk := [({ f := 4, fr := [(39, .w (.agg [.int .i64 (.var 2), .int .i64 (.var 3), .int .i64 (.var 4)])), (12, .w (.one (.iface 61 (.ptr { blk := 12 })))), (11, .w (.one (.ptr { blk := 13 }))), (37, .w (.one (.iface 61 (.ptr { blk := 12 })))), (36, .w (.agg [.int .i64 (.lit 0), .int .i64 (.lit 0), .int .i64 (.lit 0)])), (33, .tup [.agg [.int .i64 (.lit 0), .int .i64 (.lit 0), .int .i64 (.lit 0)], .one (.iface 61 (.ptr { blk := 12 }))]), (35, .tup [.agg [.int .i64 (.lit 0), .int .i64 (.lit 0), .int .i64 (.lit 0)], .one (.iface 61 (.ptr { blk := 12 }))]), (34, .w (.one (.int .i64 (.var 0)))), (10, .w (.one (.iface 61 (.ptr { blk := 9 })))), (9, .w (.one (.ptr { blk := 10 }))), (32, .w (.one (.iface 61 (.ptr { blk := 9 })))), (31, .w (.agg [.int .i64 (.lit 0), .int .i64 (.lit 0), .int .i64 (.lit 0)])), (27, .tup [.agg [.int .i64 (.lit 0), .int .i64 (.lit 0), .int .i64 (.lit 0)], .one (.iface 61 (.ptr { blk := 9 }))]), (30, .tup [.agg [.int .i64 (.lit 0), .int .i64 (.lit 0), .int .i64 (.lit 0)], .one (.iface 61 (.ptr { blk := 9 }))]), (29, .w (.one (.int .i64 (.var 1)))), (28, .w (.one (.int .i64 (.var 0)))), (8, .w (.one (.iface 61 (.ptr { blk := 6 })))), (7, .w (.one (.ptr { blk := 7 }))), (26, .w (.one (.iface 61 (.ptr { blk := 6 })))), (25, .w (.agg [.int .i64 (.lit 0), .int .i64 (.lit 0), .int .i64 (.lit 0)])), (22, .tup [.agg [.int .i64 (.lit 0), .int .i64 (.lit 0), .int .i64 (.lit 0)], .one (.iface 61 (.ptr { blk := 6 }))]), (24, .tup [.agg [.int .i64 (.lit 0), .int .i64 (.lit 0), .int .i64 (.lit 0)], .one (.iface 61 (.ptr { blk := 6 }))]), (23, .w (.one (.int .i64 (.var 1)))), (21, .w (.one (.bool (.lit false)))), (20, .w (.one (.bool (.lit true)))), (6, .w (.one (.bool (.lit false)))), (5, .w (.one (.ptr { blk := 4 }))), (0, .w (.one (.int .i64 (.var 0)))), (1, .w (.one (.int .i64 (.var 1)))), (2, .w (.agg [.int .i64 (.var 2), .int .i64 (.var 3), .int .i64 (.var 4)]))], cur := .reg [1, 1, 1, 1, 1, 0] 1, todo := [.code [1, 1, 1, 1, 1, 1]] }, 1)] }
def ex_c5 : Cfg := { nv := 5, kn := [((.ieq (.var 2) (.lit 0)), false), ((.inr .i64 (.add (.lit 79) (.var 0))), true), ((.or (.ilt (.var 1) (.lit 0)) (.ile (.lit 9) (.var 1))), true), ((.ile (.lit 0) (.var 0)), true), ((.ilt (.var 0) (.lit 6)), true), ((.or (.ilt (.var 1) (.lit 0)) (.ile (.lit 24) (.var 1))), true)],  gl := [(1, 0), (0, 2)], hp := [{ t := 27, cs := [.iface 75 (.ptr { blk := 1 })], ro := true }, { t := 100, cs := [.hole], ro := true }, { t := 27, cs := [.iface 75 (.ptr { blk := 3 })], ro := true }, { t := 100, cs := [.hole], ro := true }, { t := 25, cs := [.int .i64 (.var 2), .int .i64 (.var 3), .int .i64 (.var 4)], own := true }, { t := 25, cs := [.int .i64 (.lit 0), .int .i64 (.lit 0), .int .i64 (.lit 0)], own := true }, { t := 63, cs := [.int .i64 (.lit 4), .iface 75 (.ptr { blk := 1 })], own := true }, { t := 25, cs := [.int .i64 (.lit 0), .int .i64 (.lit 0), .int .i64 (.lit 0)], own := true }, { t := 25, cs := [.int .i64 (.lit 0), .int .i64 (.lit 0), .int .i64 (.lit 0)], own := true }, { t := 63, cs := [.int .i64 (.lit 4), .iface 75 (.ptr { blk := 1 })], own := true }, { t := 25, cs := [.int .i64 (.lit 0), .int .i64 (.lit 0), .int .i64 (.lit 0)], own := true }, { t := 25, cs := [.int .i64 (.lit 0), .int .i64 (.lit 0), .int .i64 (.add (.lit 79) (.var 0))], own := true }, { t := 25, cs := [.int .i64 (.lit 0), .int .i64 (.lit 0), .int .i64 (.add (.lit 79) (.var 0))], own := true }, { t := 25, cs := [.int .i64 (.var 2), .int .i64 (.var 3), .int .i64 (.var 4)], own := true }],  top := { f := 14, fr := [(16, .gd (.ieq (.var 2) (.lit 0)) (.one (.bool (.not (.ieq (.var 3) (.lit 0)))))), (15, .gd (.ieq (.var 2) (.lit 0)) (.one (.int .i64 (.var 3)))), (14, .gd (.ieq (.var 2) (.lit 0)) (.one (.ptr { blk := 13, j := 1 }))), (13, .w (.one (.bool (.not (.ieq (.var 2) (.lit 0)))))), (12, .w (.one (.bool (.not (.ieq (.var 2) (.lit 0)))))), (11, .w (.one (.int .i64 (.var 2)))), (10, .w (.one (.ptr { blk := 13 }))), (6, .w (.one (.int .i64 (.var 4)))), (8, .w (.one (.int .i64 (.var 4)))), (7, .w (.one (.ptr { blk := 13, j := 2 }))), (5, .w (.one (.nilif))), (4, .w (.one (.int .i64 (.lit 0)))), (3, .w (.one (.int .i64 (.lit 0)))), (2, .w (.one (.str []))), (1, .w (.one (.ptr { blk := 13 }))), (0, .w (.agg [.int .i64 (.var 2), .int .i64 (.var 3), .int .i64 (.var 4)]))], cur := .reg [1, 1, 0, 0, 0] 7, todo := [.code [1, 1, 0, 0, 1], .blk 0, .code [1, 1, 1]] },  stk := [({ f := 4, fr := [(39, .w (.agg [.int .i64 (.var 2), .int .i64 (.var 3), .int .i64 (.var 4)])), (12, .w (.one (.nilif))), (11, .w (.one (.ptr { blk := 12 }))), (37, .w (.one (.nilif))), (36, .w (.agg [.int .i64 (.lit 0), .int .i64 (.lit 0), .int .i64 (.add (.lit 79) (.var 0))])), (33, .tup [.agg [.int .i64 (.lit 0), .int .i64 (.lit 0), .int .i64 (.add (.lit 79) (.var 0))], .one (.nilif)]), (35, .tup [.agg [.int .i64 (.lit 0), .int .i64 (.lit 0), .int .i64 (.add (.lit 79) (.var 0))], .one (.nilif)]), (34, .w (.one (.int .i64 (.var 0)))), (10, .w (.one (.iface 61 (.ptr { blk := 9 })))), (9, .w (.one (.ptr { blk := 10 }))), (32, .w (.one (.iface 61 (.ptr { blk := 9 })))), (31, .w (.agg [.int .i64 (.lit 0), .int .i64 (.lit 0), .int .i64 (.lit 0)])), (27, .tup [.agg [.int .i64 (.lit 0), .int .i64 (.lit 0), .int .i64 (.lit 0)], .one (.iface 61 (.ptr { blk := 9 }))]), (30, .tup [.agg [.int .i64 (.lit 0), .int .i64 (.lit 0), .int .i64 (.lit 0)], .one (.iface 61 (.ptr { blk := 9 }))]), (29, .w (.one (.int .i64 (.var 1)))), (28, .w (.one (.int .i64 (.var 0)))), (8, .w (.one (.iface 61 (.ptr { blk := 6 })))), (7, .w (.one (.ptr { blk := 7 }))), (26, .w (.one (.iface 61 (.ptr { blk := 6 })))), (25, .w (.agg [.int .i64 (.lit 0), .int .i64 (.lit 0), .int .i64 (.lit 0)])), (22, .tup [.agg [.int .i64 (.lit 0), .int .i64 (.lit 0), .int .i64 (.lit 0)], .one (.iface 61 (.ptr { blk := 6 }))]), (24, .tup [.agg [.int .i64 (.lit 0), .int .i64 (.lit 0), .int .i64 (.lit 0)], .one (.iface 61 (.ptr { blk := 6 }))]), (23, .w (.one (.int .i64 (.var 1)))), (21, .w (.one (.bool (.lit false)))), (20, .w (.one (.bool (.lit true)))), (6, .w (.one (.bool (.lit false)))), (5, .w (.one (.ptr { blk := 4 }))), (0, .w (.one (.int .i64 (.var 0)))), (1, .w (.one (.int .i64 (.var 1)))), (2, .w (.agg [.int .i64 (.var 2), .int .i64 (.var 3), .int .i64 (.var 4)]))], cur := .reg [1, 1, 1, 1, 1, 0] 1, todo := [.code [1, 1, 1, 1, 1, 1]] }, 1)] }
def ex_c6 : Cfg := { nv := 5, kn := [((.ieq (.var 2) (.lit 0)), true), ((.inr .i64 (.add (.lit 79) (.var 0))), true), ((.or (.ilt (.var 1) (.lit 0)) (.ile (.lit 9) (.var 1))), true), ((.ile (.lit 0) (.var 0)), true), ((.ilt (.var 0) (.lit 6)), true), ((.or (.ilt (.var 1) (.lit 0)) (.ile (.lit 24) (.var 1))), true)],  gl := [(1, 0), (0, 2)], hp := [{ t := 27, cs := [.iface 75 (.ptr { blk := 1 })], ro := true }, { t := 100, cs := [.hole], ro := true }, { t := 27, cs := [.iface 75 (.ptr { blk := 3 })], ro := true }, { t := 100, cs := [.hole], ro := true }, { t := 25, cs := [.int .i64 (.var 2), .int .i64 (.var 3), .int .i64 (.var 4)], own := true }, { t := 25, cs := [.int .i64 (.lit 0), .int .i64 (.lit 0), .int .i64 (.lit 0)], own := true }, { t := 63, cs := [.int .i64 (.lit 4), .iface 75 (.ptr { blk := 1 })], own := true }, { t := 25, cs := [.int .i64 (.lit 0), .int .i64 (.lit 0), .int .i64 (.lit 0)], own := true }, { t := 25, cs := [.int .i64 (.lit 0), .int .i64 (.lit 0), .int .i64 (.lit 0)], own := true }, { t := 63, cs := [.int .i64 (.lit 4), .iface 75 (.ptr { blk := 1 })], own := true }, { t := 25, cs := [.int .i64 (.lit 0), .int .i64 (.lit 0), .int .i64 (.lit 0)], own := true }, { t := 25, cs := [.int .i64 (.lit 0), .int .i64 (.lit 0), .int .i64 (.add (.lit 79) (.var 0))], own := true }, { t := 25, cs := [.int .i64 (.lit 0), .int .i64 (.lit 0), .int .i64 (.add (.lit 79) (.var 0))], own := true }, { t := 25, cs := [.int .i64 (.var 2), .int .i64 (.var 3), .int .i64 (.var 4)], own := true }],  top := { f := 14, fr := [(16, .gd (.ieq (.var 2) (.lit 0)) (.one (.bool (.not (.ieq (.var 3) (.lit 0)))))), (15, .gd (.ieq (.var 2) (.lit 0)) (.one (.int .i64 (.var 3)))), (14, .gd (.ieq (.var 2) (.lit 0)) (.one (.ptr { blk := 13, j := 1 }))), (13, .w (.one (.bool (.not (.ieq (.var 2) (.lit 0)))))), (12, .w (.one (.bool (.not (.ieq (.var 2) (.lit 0)))))), (11, .w (.one (.int .i64 (.var 2)))), (10, .w (.one (.ptr { blk := 13 }))), (6, .w (.one (.int .i64 (.var 4)))), (8, .w (.one (.int .i64 (.var 4)))), (7, .w (.one (.ptr { blk := 13, j := 2 }))), (5, .w (.one (.nilif))), (4, .w (.one (.int .i64 (.lit 0)))), (3, .w (.one (.int .i64 (.lit 0)))), (2, .w (.one (.str []))), (1, .w (.one (.ptr { blk := 13 }))), (0, .w (.agg [.int .i64 (.var 2), .int .i64 (.var 3), .int .i64 (.var 4)]))], cur := .reg [1, 1, 0, 0, 0] 7, todo := [.code [1, 1, 0, 0, 1], .blk 0, .code [1, 1, 1]] },  stk := [({ f := 4, fr := [(39, .w (.agg [.int .i64 (.var 2), .int .i64 (.var 3), .int .i64 (.var 4)])), (12, .w (.one (.nilif))), (11, .w (.one (.ptr { blk := 12 }))), (37, .w (.one (.nilif))), (36, .w (.agg [.int .i64 (.lit 0), .int .i64 (.lit 0), .int .i64 (.add (.lit 79) (.var 0))])), (33, .tup [.agg [.int .i64 (.lit 0), .int .i64 (.lit 0), .int .i64 (.add (.lit 79) (.var 0))], .one (.nilif)]), (35, .tup [.agg [.int .i64 (.lit 0), .int .i64 (.lit 0), .int .i64 (.add (.lit 79) (.var 0))], .one (.nilif)]), (34, .w (.one (.int .i64 (.var 0)))), (10, .w (.one (.iface 61 (.ptr { blk := 9 })))), (9, .w (.one (.ptr { blk := 10 }))), (32, .w (.one (.iface 61 (.ptr { blk := 9 })))), (31, .w (.agg [.int .i64 (.lit 0), .int .i64 (.lit 0), .int .i64 (.lit 0)])), (27, .tup [.agg [.int .i64 (.lit 0), .int .i64 (.lit 0), .int .i64 (.lit 0)], .one (.iface 61 (.ptr { blk := 9 }))]), (30, .tup [.agg [.int .i64 (.lit 0), .int .i64 (.lit 0), .int .i64 (.lit 0)], .one (.iface 61 (.ptr { blk := 9 }))]), (29, .w (.one (.int .i64 (.var 1)))), (28, .w (.one (.int .i64 (.var 0)))), (8, .w (.one (.iface 61 (.ptr { blk := 6 })))), (7, .w (.one (.ptr { blk := 7 }))), (26, .w (.one (.iface 61 (.ptr { blk := 6 })))), (25, .w (.agg [.int .i64 (.lit 0), .int .i64 (.lit 0), .int .i64 (.lit 0)])), (22, .tup [.agg [.int .i64 (.lit 0), .int .i64 (.lit 0), .int .i64 (.lit 0)], .one (.iface 61 (.ptr { blk := 6 }))]), (24, .tup [.agg [.int .i64 (.lit 0), .int .i64 (.lit 0), .int .i64 (.lit 0)], .one (.iface 61 (.ptr { blk := 6 }))]), (23, .w (.one (.int .i64 (.var 1)))), (21, .w (.one (.bool (.lit false)))), (20, .w (.one (.bool (.lit true)))), (6, .w (.one (.bool (.lit false)))), (5, .w (.one (.ptr { blk := 4 }))), (0, .w (.one (.int .i64 (.var 0)))), (1, .w (.one (.int .i64 (.var 1)))), (2, .w (.agg [.int .i64 (.var 2), .int .i64 (.var 3), .int .i64 (.var 4)]))], cur := .reg [1, 1, 1, 1, 1, 0] 1, todo := [.code [1, 1, 1, 1, 1, 1]] }, 1)] }
def ex_c7 : Cfg := { nv := 5, kn := [((.ieq (.var 2) (.lit 0)), false), ((.inr .i64 (.add (.lit 79) (.var 0))), true), ((.inr .i64 (.add (.add (.lit 25) (.mul (.var 0) (.lit 9))) (.var 1))), true), ((.inr .i64 (.add (.lit 25) (.mul (.var 0) (.lit 9)))), true), ((.inr .i64 (.mul (.var 0) (.lit 9))), true), ((.ilt (.var 1) (.lit 0)), false), ((.ile (.lit 9) (.var 1)), false), ((.ile (.lit 0) (.var 0)), true), ((.ilt (.var 0) (.lit 6)), true), ((.or (.ilt (.var 1) (.lit 0)) (.ile (.lit 24) (.var 1))), true)],  gl := [(1, 0), (0, 2)], hp := [{ t := 27, cs := [.iface 75 (.ptr { blk := 1 })], ro := true }, { t := 100, cs := [.hole], ro := true }, { t := 27, cs := [.iface 75 (.ptr { blk := 3 })], ro := true }, { t := 100, cs := [.hole], ro := true }, { t := 25, cs := [.int .i64 (.var 2), .int .i64 (.var 3), .int .i64 (.var 4)], own := true }, { t := 25, cs := [.int .i64 (.lit 0), .int .i64 (.lit 0), .int .i64 (.lit 0)], own := true }, { t := 63, cs := [.int .i64 (.lit 4), .iface 75 (.ptr { blk := 1 })], own := true }, { t := 25, cs := [.int .i64 (.lit 0), .int .i64 (.lit 0), .int .i64 (.lit 0)], own := true }, { t := 25, cs := [.int .i64 (.lit 0), .int .i64 (.lit 0), .int .i64 (.add (.add (.lit 25) (.mul (.var 0) (.lit 9))) (.var 1))], own := true }, { t := 25, cs := [.int .i64 (.lit 0), .int .i64 (.lit 0), .int .i64 (.add (.add (.lit 25) (.mul (.var 0) (.lit 9))) (.var 1))], own := true }, { t := 25, cs := [.int .i64 (.lit 0), .int .i64 (.lit 0), .int .i64 (.add (.lit 79) (.var 0))], own := true }, { t := 25, cs := [.int .i64 (.lit 0), .int .i64 (.lit 0), .int .i64 (.add (.lit 79) (.var 0))], own := true }, { t := 25, cs := [.int .i64 (.var 2), .int .i64 (.var 3), .int .i64 (.var 4)], own := true }],  top := { f := 14, fr := [(16, .gd (.ieq (.var 2) (.lit 0)) (.one (.bool (.not (.ieq (.var 3) (.lit 0)))))), (15, .gd (.ieq (.var 2) (.lit 0)) (.one (.int .i64 (.var 3)))), (14, .gd (.ieq (.var 2) (.lit 0)) (.one (.ptr { blk := 12, j := 1 }))), (13, .w (.one (.bool (.not (.ieq (.var 2) (.lit 0)))))), (12, .w (.one (.bool (.not (.ieq (.var 2) (.lit 0)))))), (11, .w (.one (.int .i64 (.var 2)))), (10, .w (.one (.ptr { blk := 12 }))), (6, .w (.one (.int .i64 (.var 4)))), (8, .w (.one (.int .i64 (.var 4)))), (7, .w (.one (.ptr { blk := 12, j := 2 }))), (5, .w (.one (.nilif))), (4, .w (.one (.int .i64 (.lit 0)))), (3, .w (.one (.int .i64 (.lit 0)))), (2, .w (.one (.str []))), (1, .w (.one (.ptr { blk := 12 }))), (0, .w (.agg [.int .i64 (.var 2), .int .i64 (.var 3), .int .i64 (.var 4)]))], cur := .reg [1, 1, 0, 0, 0] 7, todo := [.code [1, 1, 0, 0, 1], .blk 0, .code [1, 1, 1]] },  stk := [({ f := 4, fr := [(39, .w (.agg [.int .i64 (.var 2), .int .i64 (.var 3), .int .i64 (.var 4)])), (12, .w (.one (.nilif))), (11, .w (.one (.ptr { blk := 11 }))), (37, .w (.one (.nilif))), (36, .w (.agg [.int .i64 (.lit 0), .int .i64 (.lit 0), .int .i64 (.add (.lit 79) (.var 0))])), (33, .tup [.agg [.int .i64 (.lit 0), .int .i64 (.lit 0), .int .i64 (.add (.lit 79) (.var 0))], .one (.nilif)]), (35, .tup [.agg [.int .i64 (.lit 0), .int .i64 (.lit 0), .int .i64 (.add (.lit 79) (.var 0))], .one (.nilif)]), (34, .w (.one (.int .i64 (.var 0)))), (10, .w (.one (.nilif))), (9, .w (.one (.ptr { blk := 9 }))), (32, .w (.one (.nilif))), (31, .w (.agg [.int .i64 (.lit 0), .int .i64 (.lit 0), .int .i64 (.add (.add (.lit 25) (.mul (.var 0) (.lit 9))) (.var 1))])), (27, .tup [.agg [.int .i64 (.lit 0), .int .i64 (.lit 0), .int .i64 (.add (.add (.lit 25) (.mul (.var 0) (.lit 9))) (.var 1))], .one (.nilif)]), (30, .tup [.agg [.int .i64 (.lit 0), .int .i64 (.lit 0), .int .i64 (.add (.add (.lit 25) (.mul (.var 0) (.lit 9))) (.var 1))], .one (.nilif)]), (29, .w (.one (.int .i64 (.var 1)))), (28, .w (.one (.int .i64 (.var 0)))), (8, .w (.one (.iface 61 (.ptr { blk := 6 })))), (7, .w (.one (.ptr { blk := 7 }))), (26, .w (.one (.iface 61 (.ptr { blk := 6 })))), (25, .w (.agg [.int .i64 (.lit 0), .int .i64 (.lit 0), .int .i64 (.lit 0)])), (22, .tup [.agg [.int .i64 (.lit 0), .int .i64 (.lit 0), .int .i64 (.lit 0)], .one (.iface 61 (.ptr { blk := 6 }))]), (24, .tup [.agg [.int .i64 (.lit 0), .int .i64 (.lit 0), .int .i64 (.lit 0)], .one (.iface 61 (.ptr { blk := 6 }))]), (23, .w (.one (.int .i64 (.var 1)))), (21, .w (.one (.bool (.lit false)))), (20, .w (.one (.bool (.lit true)))), (6, .w (.one (.bool (.lit false)))), (5, .w (.one (.ptr { blk := 4 }))), (0, .w (.one (.int .i64 (.var 0)))), (1, .w (.one (.int .i64 (.var 1)))), (2, .w (.agg [.int .i64 (.var 2), .int .i64 (.var 3), .int .i64 (.var 4)]))], cur := .reg [1, 1, 1, 1, 1, 0] 1, todo := [.code [1, 1, 1, 1, 1, 1]] }, 1)] }
def ex_c8 : Cfg := { nv := 5, kn := [((.ieq (.var 2) (.lit 0)), true), ((.inr .i64 (.add (.lit 79) (.var 0))), true), ((.inr .i64 (.add (.add (.lit 25) (.mul (.var 0) (.lit 9))) (.var 1))), true), ((.inr .i64 (.add (.lit 25) (.mul (.var 0) (.lit 9)))), true), ((.inr .i64 (.mul (.var 0) (.lit 9))), true), ((.ilt (.var 1) (.lit 0)), false), ((.ile (.lit 9) (.var 1)), false), ((.ile (.lit 0) (.var 0)), true), ((.ilt (.var 0) (.lit 6)), true), ((.or (.ilt (.var 1) (.lit 0)) (.ile (.lit 24) (.var 1))), true)],  gl := [(1, 0), (0, 2)], hp := [{ t := 27, cs := [.iface 75 (.ptr { blk := 1 })], ro := true }, { t := 100, cs := [.hole], ro := true }, { t := 27, cs := [.iface 75 (.ptr { blk := 3 })], ro := true }, { t := 100, cs := [.hole], ro := true }, { t := 25, cs := [.int .i64 (.var 2), .int .i64 (.var 3), .int .i64 (.var 4)], own := true }, { t := 25, cs := [.int .i64 (.lit 0), .int .i64 (.lit 0), .int .i64 (.lit 0)], own := true }, { t := 63, cs := [.int .i64 (.lit 4), .iface 75 (.ptr { blk := 1 })], own := true }, { t := 25, cs := [.int .i64 (.lit 0), .int .i64 (.lit 0), .int .i64 (.lit 0)], own := true }, { t := 25, cs := [.int .i64 (.lit 0), .int .i64 (.lit 0), .int .i64 (.add (.add (.lit 25) (.mul (.var 0) (.lit 9))) (.var 1))], own := true }, { t := 25, cs := [.int .i64 (.lit 0), .int .i64 (.lit 0), .int .i64 (.add (.add (.lit 25) (.mul (.var 0) (.lit 9))) (.var 1))], own := true }, { t := 25, cs := [.int .i64 (.lit 0), .int .i64 (.lit 0), .int .i64 (.add (.lit 79) (.var 0))], own := true }, { t := 25, cs := [.int .i64 (.lit 0), .int .i64 (.lit 0), .int .i64 (.add (.lit 79) (.var 0))], own := true }, { t := 25, cs := [.int .i64 (.var 2), .int .i64 (.var 3), .int .i64 (.var 4)], own := true }],  top := { f := 14, fr := [(16, .gd (.ieq (.var 2) (.lit 0)) (.one (.bool (.not (.ieq (.var 3) (.lit 0)))))), (15, .gd (.ieq (.var 2) (.lit 0)) (.one (.int .i64 (.var 3)))), (14, .gd (.ieq (.var 2) (.lit 0)) (.one (.ptr { blk := 12, j := 1 }))), (13, .w (.one (.bool (.not (.ieq (.var 2) (.lit 0)))))), (12, .w (.one (.bool (.not (.ieq (.var 2) (.lit 0)))))), (11, .w (.one (.int .i64 (.var 2)))), (10, .w (.one (.ptr { blk := 12 }))), (6, .w (.one (.int .i64 (.var 4)))), (8, .w (.one (.int .i64 (.var 4)))), (7, .w (.one (.ptr { blk := 12, j := 2 }))), (5, .w (.one (.nilif))), (4, .w (.one (.int .i64 (.lit 0)))), (3, .w (.one (.int .i64 (.lit 0)))), (2, .w (.one (.str []))), (1, .w (.one (.ptr { blk := 12 }))), (0, .w (.agg [.int .i64 (.var 2), .int .i64 (.var 3), .int .i64 (.var 4)]))], cur := .reg [1, 1, 0, 0, 0] 7, todo := [.code [1, 1, 0, 0, 1], .blk 0, .code [1, 1, 1]] },  stk := [({ f := 4, fr := [(39, .w (.agg [.int .i64 (.var 2), .int .i64 (.var 3), .int .i64 (.var 4)])), (12, .w (.one (.nilif))), (11, .w (.one (.ptr { blk := 11 }))), (37, .w (.one (.nilif))), (36, .w (.agg [.int .i64 (.lit 0), .int .i64 (.lit 0), .int .i64 (.add (.lit 79) (.var 0))])), (33, .tup [.agg [.int .i64 (.lit 0), .int .i64 (.lit 0), .int .i64 (.add (.lit 79) (.var 0))], .one (.nilif)]), (35, .tup [.agg [.int .i64 (.lit 0), .int .i64 (.lit 0), .int .i64 (.add (.lit 79) (.var 0))], .one (.nilif)]), (34, .w (.one (.int .i64 (.var 0)))), (10, .w (.one (.nilif))), (9, .w (.one (.ptr { blk := 9 }))), (32, .w (.one (.nilif))), (31, .w (.agg [.int .i64 (.lit 0), .int .i64 (.lit 0), .int .i64 (.add (.add (.lit 25) (.mul (.var 0) (.lit 9))) (.var 1))])), (27, .tup [.agg [.int .i64 (.lit 0), .int .i64 (.lit 0), .int .i64 (.add (.add (.lit 25) (.mul (.var 0) (.lit 9))) (.var 1))], .one (.nilif)]), (30, .tup [.agg [.int .i64 (.lit 0), .int .i64 (.lit 0), .int .i64 (.add (.add (.lit 25) (.mul (.var 0) (.lit 9))) (.var 1))], .one (.nilif)]), (29, .w (.one (.int .i64 (.var 1)))), (28, .w (.one (.int .i64 (.var 0)))), (8, .w (.one (.iface 61 (.ptr { blk := 6 })))), (7, .w (.one (.ptr { blk := 7 }))), (26, .w (.one (.iface 61 (.ptr { blk := 6 })))), (25, .w (.agg [.int .i64 (.lit 0), .int .i64 (.lit 0), .int .i64 (.lit 0)])), (22, .tup [.agg [.int .i64 (.lit 0), .int .i64 (.lit 0), .int .i64 (.lit 0)], .one (.iface 61 (.ptr { blk := 6 }))]), (24, .tup [.agg [.int .i64 (.lit 0), .int .i64 (.lit 0), .int .i64 (.lit 0)], .one (.iface 61 (.ptr { blk := 6 }))]), (23, .w (.one (.int .i64 (.var 1)))), (21, .w (.one (.bool (.lit false)))), (20, .w (.one (.bool (.lit true)))), (6, .w (.one (.bool (.lit false)))), (5, .w (.one (.ptr { blk := 4 }))), (0, .w (.one (.int .i64 (.var 0)))), (1, .w (.one (.int .i64 (.var 1)))), (2, .w (.agg [.int .i64 (.var 2), .int .i64 (.var 3), .int .i64 (.var 4)]))], cur := .reg [1, 1, 1, 1, 1, 0] 1, todo := [.code [1, 1, 1, 1, 1, 1]] }, 1)] }
def ex_c9 : Cfg := { nv := 5, kn := [((.and (.ile (.lit 0) (.var 1)) (.ilt (.var 1) (.lit 24))), false), ((.ieq (.var 2) (.lit 0)), false), ((.and (.ile (.lit 0) (.var 0)) (.ilt (.var 0) (.lit 6))), false), ((.inr .i64 (.var 1)), true), ((.ilt (.var 1) (.lit 0)), false), ((.ile (.lit 24) (.var 1)), false)],  gl := [(1, 0), (0, 2)], hp := [{ t := 27, cs := [.iface 75 (.ptr { blk := 1 })], ro := true }, { t := 100, cs := [.hole], ro := true }, { t := 27, cs := [.iface 75 (.ptr { blk := 3 })], ro := true }, { t := 100, cs := [.hole], ro := true }, { t := 25, cs := [.int .i64 (.var 2), .int .i64 (.var 3), .int .i64 (.var 4)], own := true }, { t := 25, cs := [.int .i64 (.lit 0), .int .i64 (.lit 0), .int .i64 (.var 1)], own := true }, { t := 25, cs := [.int .i64 (.lit 0), .int .i64 (.lit 0), .int .i64 (.var 1)], own := true }, { t := 25, cs := [.int .i64 (.lit 0), .int .i64 (.lit 0), .int .i64 (.lit 0)], own := true }, { t := 63, cs := [.int .i64 (.lit 4), .iface 75 (.ptr { blk := 1 })], own := true }, { t := 25, cs := [.int .i64 (.lit 0), .int .i64 (.lit 0), .int .i64 (.lit 0)], own := true }, { t := 25, cs := [.int .i64 (.lit 0), .int .i64 (.lit 0), .int .i64 (.lit 0)], own := true }, { t := 63, cs := [.int .i64 (.lit 4), .iface 75 (.ptr { blk := 1 })], own := true }, { t := 25, cs := [.int .i64 (.lit 0), .int .i64 (.lit 0), .int .i64 (.lit 0)], own := true }, { t := 25, cs := [.int .i64 (.var 2), .int .i64 (.var 3), .int .i64 (.var 4)], own := true }, { t := 63, cs := [.int .i64 (.lit 4), .iface 75 (.ptr { blk := 3 })], own := true }, { t := 25, cs := [.int .i64 (.var 2), .int .i64 (.var 3), .int .i64 (.var 4)], own := true }],  top := { f := 17, fr := [(5, .w (.one (.bool (.not (.and (.ile (.lit 0) (.var 1)) (.ilt (.var 1) (.lit 24))))))), (4, .w (.one (.bool (.and (.ile (.lit 0) (.var 1)) (.ilt (.var 1) (.lit 24)))))), (3, .w (.one (.int .i64 (.var 1)))), (2, .w (.one (.int .i64 (.lit 0)))), (0, .w (.one (.int .i64 (.var 1))))], cur := .none, todo := [.code [1, 0, 1], .code [1, 1]] },  stk := [({ f := 4, fr := [(51, .w (.agg [.int .i64 (.lit 0), .int .i64 (.lit 0), .int .i64 (.var 1)])), (53, .w (.one (.int .i64 (.var 1)))), (52, .w (.one (.nilif))), (19, .w (.one (.int .i64 (.lit 0)))), (18, .w (.one (.int .i64 (.lit 0)))), (17, .w (.one (.str []))), (50, .w (.one (.int .i64 (.lit 0)))), (49, .w (.one (.int .i64 (.lit 0)))), (48, .w (.one (.str []))), (45, .tup [.one (.str []), .one (.int .i64 (.lit 0)), .one (.int .i64 (.lit 0))]), (47, .tup [.one (.str []), .one (.int .i64 (.lit 0)), .one (.int .i64 (.lit 0))]), (46, .w (.agg [.int .i64 (.var 2), .int .i64 (.var 3), .int .i64 (.var 4)])), (16, .w (.one (.iface 61 (.ptr { blk := 14 })))), (15, .w (.one (.int .i64 (.lit 0)))), (14, .w (.one (.int .i64 (.lit 0)))), (13, .w (.one (.str []))), (44, .w (.one (.iface 61 (.ptr { blk := 14 })))), (43, .w (.one (.int .i64 (.lit 0)))), (42, .w (.one (.int .i64 (.lit 0)))), (41, .w (.one (.str []))), (38, .tup [.one (.str []), .one (.int .i64 (.lit 0)), .one (.int .i64 (.lit 0)), .one (.iface 61 (.ptr { blk := 14 }))]), (40, .tup [.one (.str []), .one (.int .i64 (.lit 0)), .one (.int .i64 (.lit 0)), .one (.iface 61 (.ptr { blk := 14 }))]), (39, .w (.agg [.int .i64 (.var 2), .int .i64 (.var 3), .int .i64 (.var 4)])), (12, .w (.one (.iface 61 (.ptr { blk := 11 })))), (11, .w (.one (.ptr { blk := 12 }))), (37, .w (.one (.iface 61 (.ptr { blk := 11 })))), (36, .w (.agg [.int .i64 (.lit 0), .int .i64 (.lit 0), .int .i64 (.lit 0)])), (33, .tup [.agg [.int .i64 (.lit 0), .int .i64 (.lit 0), .int .i64 (.lit 0)], .one (.iface 61 (.ptr { blk := 11 }))]), (35, .tup [.agg [.int .i64 (.lit 0), .int .i64 (.lit 0), .int .i64 (.lit 0)], .one (.iface 61 (.ptr { blk := 11 }))]), (34, .w (.one (.int .i64 (.var 0)))), (10, .w (.one (.iface 61 (.ptr { blk := 8 })))), (9, .w (.one (.ptr { blk := 9 }))), (32, .w (.one (.iface 61 (.ptr { blk := 8 })))), (31, .w (.agg [.int .i64 (.lit 0), .int .i64 (.lit 0), .int .i64 (.lit 0)])), (27, .tup [.agg [.int .i64 (.lit 0), .int .i64 (.lit 0), .int .i64 (.lit 0)], .one (.iface 61 (.ptr { blk := 8 }))]), (30, .tup [.agg [.int .i64 (.lit 0), .int .i64 (.lit 0), .int .i64 (.lit 0)], .one (.iface 61 (.ptr { blk := 8 }))]), (29, .w (.one (.int .i64 (.var 1)))), (28, .w (.one (.int .i64 (.var 0)))), (8, .w (.one (.nilif))), (7, .w (.one (.ptr { blk := 6 }))), (26, .w (.one (.nilif))), (25, .w (.agg [.int .i64 (.lit 0), .int .i64 (.lit 0), .int .i64 (.var 1)])), (22, .tup [.agg [.int .i64 (.lit 0), .int .i64 (.lit 0), .int .i64 (.var 1)], .one (.nilif)]), (24, .tup [.agg [.int .i64 (.lit 0), .int .i64 (.lit 0), .int .i64 (.var 1)], .one (.nilif)]), (23, .w (.one (.int .i64 (.var 1)))), (21, .w (.one (.bool (.lit false)))), (20, .w (.one (.bool (.lit true)))), (6, .w (.one (.bool (.lit false)))), (5, .w (.one (.ptr { blk := 4 }))), (0, .w (.one (.int .i64 (.var 0)))), (1, .w (.one (.int .i64 (.var 1)))), (2, .w (.agg [.int .i64 (.var 2), .int .i64 (.var 3), .int .i64 (.var 4)]))], cur := .dr [1, 1, 1, 1, 1, 1, 1, 0] (.solo 3 <| .solo 4 <| .solo 5 <| .take 7 <| .take 8 <| .take 9 <| .take 6 <| .solo 10 <| .solo 11 <| .solo 12 <| .solo 13 <| .take 15 <| .take 16 <| .take 14 <| .solo 17 <| .solo 18 <| .solo 19 <| .solo 20 <| .take 21 <| .solo 22 <| .solo 23 <| .solo 24 <| .solo 25 <| .take 26 <| .solo 27 <| .solo 28 <| .solo 29 <| .solo 30 <| .take 31 <| .solo 32 <| .solo 33 <| .solo 34 <| .solo 35 <| .take 36 <| .take 37 <| .solo 38 <| .solo 39 <| .solo 40 <| .solo 41 <| .solo 42 <| .solo 43 <| .solo 44 <| .solo 45 <| .take 46 <| .solo 47 <| .solo 48 <| .solo 49 <| .solo 50 <| .solo 51 <| .nil) [{ t := 0, gone := true }, { t := 0, gone := true }, { t := 0, gone := true }, { t := 0, gone := true }, { t := 0, gone := true }, { t := 0, gone := true }, { t := 25, cs := [.int .i64 (.lit 0), .int .i64 (.lit 0), .int .i64 (.var 1)], own := true }] false, todo := [.code [1, 1, 1, 1, 1, 1, 1, 1]] }, 3)] }
def ex_c10 : Cfg := { nv := 5, kn := [((.ile (.lit 0) (.var 1)), true), ((.ilt (.var 1) (.lit 24)), true), ((.ieq (.var 2) (.lit 0)), false), ((.and (.ile (.lit 0) (.var 0)) (.ilt (.var 0) (.lit 6))), false), ((.inr .i64 (.var 1)), true), ((.ilt (.var 1) (.lit 0)), false), ((.ile (.lit 24) (.var 1)), false)],  gl := [(1, 0), (0, 2)], hp := [{ t := 27, cs := [.iface 75 (.ptr { blk := 1 })], ro := true }, { t := 100, cs := [.hole], ro := true }, { t := 27, cs := [.iface 75 (.ptr { blk := 3 })], ro := true }, { t := 100, cs := [.hole], ro := true }, { t := 25, cs := [.int .i64 (.var 2), .int .i64 (.var 3), .int .i64 (.var 4)], own := true }, { t := 25, cs := [.int .i64 (.lit 0), .int .i64 (.lit 0), .int .i64 (.var 1)], own := true }, { t := 25, cs := [.int .i64 (.lit 0), .int .i64 (.lit 0), .int .i64 (.var 1)], own := true }, { t := 25, cs := [.int .i64 (.lit 0), .int .i64 (.lit 0), .int .i64 (.lit 0)], own := true }, { t := 63, cs := [.int .i64 (.lit 4), .iface 75 (.ptr { blk := 1 })], own := true }, { t := 25, cs := [.int .i64 (.lit 0), .int .i64 (.lit 0), .int .i64 (.lit 0)], own := true }, { t := 25, cs := [.int .i64 (.lit 0), .int .i64 (.lit 0), .int .i64 (.lit 0)], own := true }, { t := 63, cs := [.int .i64 (.lit 4), .iface 75 (.ptr { blk := 1 })], own := true }, { t := 25, cs := [.int .i64 (.lit 0), .int .i64 (.lit 0), .int .i64 (.lit 0)], own := true }, { t := 25, cs := [.int .i64 (.var 2), .int .i64 (.var 3), .int .i64 (.var 4)], own := true }, { t := 63, cs := [.int .i64 (.lit 4), .iface 75 (.ptr { blk := 3 })], own := true }, { t := 25, cs := [.int .i64 (.var 2), .int .i64 (.var 3), .int .i64 (.var 4)], own := true }],  top := { f := 17, fr := [(5, .w (.one (.bool (.not (.and (.ile (.lit 0) (.var 1)) (.ilt (.var 1) (.lit 24))))))), (4, .w (.one (.bool (.and (.ile (.lit 0) (.var 1)) (.ilt (.var 1) (.lit 24)))))), (3, .w (.one (.int .i64 (.var 1)))), (2, .w (.one (.int .i64 (.lit 0)))), (0, .w (.one (.int .i64 (.var 1))))], cur := .none, todo := [.code [1, 0, 1], .code [1, 1]] },  stk := [({ f := 4, fr := [(51, .w (.agg [.int .i64 (.lit 0), .int .i64 (.lit 0), .int .i64 (.var 1)])), (53, .w (.one (.int .i64 (.var 1)))), (52, .w (.one (.nilif))), (19, .w (.one (.int .i64 (.lit 0)))), (18, .w (.one (.int .i64 (.lit 0)))), (17, .w (.one (.str []))), (50, .w (.one (.int .i64 (.lit 0)))), (49, .w (.one (.int .i64 (.lit 0)))), (48, .w (.one (.str []))), (45, .tup [.one (.str []), .one (.int .i64 (.lit 0)), .one (.int .i64 (.lit 0))]), (47, .tup [.one (.str []), .one (.int .i64 (.lit 0)), .one (.int .i64 (.lit 0))]), (46, .w (.agg [.int .i64 (.var 2), .int .i64 (.var 3), .int .i64 (.var 4)])), (16, .w (.one (.iface 61 (.ptr { blk := 14 })))), (15, .w (.one (.int .i64 (.lit 0)))), (14, .w (.one (.int .i64 (.lit 0)))), (13, .w (.one (.str []))), (44, .w (.one (.iface 61 (.ptr { blk := 14 })))), (43, .w (.one (.int .i64 (.lit 0)))), (42, .w (.one (.int .i64 (.lit 0)))), (41, .w (.one (.str []))), (38, .tup [.one (.str []), .one (.int .i64 (.lit 0)), .one (.int .i64 (.lit 0)), .one (.iface 61 (.ptr { blk := 14 }))]), (40, .tup [.one (.str []), .one (.int .i64 (.lit 0)), .one (.int .i64 (.lit 0)), .one (.iface 61 (.ptr { blk := 14 }))]), (39, .w (.agg [.int .i64 (.var 2), .int .i64 (.var 3), .int .i64 (.var 4)])), (12, .w (.one (.iface 61 (.ptr { blk := 11 })))), (11, .w (.one (.ptr { blk := 12 }))), (37, .w (.one (.iface 61 (.ptr { blk := 11 })))), (36, .w (.agg [.int .i64 (.lit 0), .int .i64 (.lit 0), .int .i64 (.lit 0)])), (33, .tup [.agg [.int .i64 (.lit 0), .int .i64 (.lit 0), .int .i64 (.lit 0)], .one (.iface 61 (.ptr { blk := 11 }))]), (35, .tup [.agg [.int .i64 (.lit 0), .int .i64 (.lit 0), .int .i64 (.lit 0)], .one (.iface 61 (.ptr { blk := 11 }))]), (34, .w (.one (.int .i64 (.var 0)))), (10, .w (.one (.iface 61 (.ptr { blk := 8 })))), (9, .w (.one (.ptr { blk := 9 }))), (32, .w (.one (.iface 61 (.ptr { blk := 8 })))), (31, .w (.agg [.int .i64 (.lit 0), .int .i64 (.lit 0), .int .i64 (.lit 0)])), (27, .tup [.agg [.int .i64 (.lit 0), .int .i64 (.lit 0), .int .i64 (.lit 0)], .one (.iface 61 (.ptr { blk := 8 }))]), (30, .tup [.agg [.int .i64 (.lit 0), .int .i64 (.lit 0), .int .i64 (.lit 0)], .one (.iface 61 (.ptr { blk := 8 }))]), (29, .w (.one (.int .i64 (.var 1)))), (28, .w (.one (.int .i64 (.var 0)))), (8, .w (.one (.nilif))), (7, .w (.one (.ptr { blk := 6 }))), (26, .w (.one (.nilif))), (25, .w (.agg [.int .i64 (.lit 0), .int .i64 (.lit 0), .int .i64 (.var 1)])), (22, .tup [.agg [.int .i64 (.lit 0), .int .i64 (.lit 0), .int .i64 (.var 1)], .one (.nilif)]), (24, .tup [.agg [.int .i64 (.lit 0), .int .i64 (.lit 0), .int .i64 (.var 1)], .one (.nilif)]), (23, .w (.one (.int .i64 (.var 1)))), (21, .w (.one (.bool (.lit false)))), (20, .w (.one (.bool (.lit true)))), (6, .w (.one (.bool (.lit false)))), (5, .w (.one (.ptr { blk := 4 }))), (0, .w (.one (.int .i64 (.var 0)))), (1, .w (.one (.int .i64 (.var 1)))), (2, .w (.agg [.int .i64 (.var 2), .int .i64 (.var 3), .int .i64 (.var 4)]))], cur := .dr [1, 1, 1, 1, 1, 1, 1, 0] (.solo 3 <| .solo 4 <| .solo 5 <| .take 7 <| .take 8 <| .take 9 <| .take 6 <| .solo 10 <| .solo 11 <| .solo 12 <| .solo 13 <| .take 15 <| .take 16 <| .take 14 <| .solo 17 <| .solo 18 <| .solo 19 <| .solo 20 <| .take 21 <| .solo 22 <| .solo 23 <| .solo 24 <| .solo 25 <| .take 26 <| .solo 27 <| .solo 28 <| .solo 29 <| .solo 30 <| .take 31 <| .solo 32 <| .solo 33 <| .solo 34 <| .solo 35 <| .take 36 <| .take 37 <| .solo 38 <| .solo 39 <| .solo 40 <| .solo 41 <| .solo 42 <| .solo 43 <| .solo 44 <| .solo 45 <| .take 46 <| .solo 47 <| .solo 48 <| .solo 49 <| .solo 50 <| .solo 51 <| .nil) [{ t := 0, gone := true }, { t := 0, gone := true }, { t := 0, gone := true }, { t := 0, gone := true }, { t := 0, gone := true }, { t := 0, gone := true }, { t := 25, cs := [.int .i64 (.lit 0), .int .i64 (.lit 0), .int .i64 (.var 1)], own := true }] false, todo := [.code [1, 1, 1, 1, 1, 1, 1, 1]] }, 3)] }
def ex_c11 : Cfg := { nv := 5, kn := [((.ieq (.var 3) (.lit 0)), false), ((.ieq (.var 2) (.lit 0)), true), ((.and (.ile (.lit 0) (.var 0)) (.ilt (.var 0) (.lit 6))), false), ((.inr .i64 (.var 1)), true), ((.ilt (.var 1) (.lit 0)), false), ((.ile (.lit 24) (.var 1)), false)],  gl := [(1, 0), (0, 2)], hp := [{ t := 27, cs := [.iface 75 (.ptr { blk := 1 })], ro := true }, { t := 100, cs := [.hole], ro := true }, { t := 27, cs := [.iface 75 (.ptr { blk := 3 })], ro := true }, { t := 100, cs := [.hole], ro := true }, { t := 25, cs := [.int .i64 (.var 2), .int .i64 (.var 3), .int .i64 (.var 4)], own := true }, { t := 25, cs := [.int .i64 (.lit 0), .int .i64 (.lit 0), .int .i64 (.var 1)], own := true }, { t := 25, cs := [.int .i64 (.lit 0), .int .i64 (.lit 0), .int .i64 (.var 1)], own := true }, { t := 25, cs := [.int .i64 (.lit 0), .int .i64 (.lit 0), .int .i64 (.lit 0)], own := true }, { t := 63, cs := [.int .i64 (.lit 4), .iface 75 (.ptr { blk := 1 })], own := true }, { t := 25, cs := [.int .i64 (.lit 0), .int .i64 (.lit 0), .int .i64 (.lit 0)], own := true }, { t := 25, cs := [.int .i64 (.lit 0), .int .i64 (.lit 0), .int .i64 (.lit 0)], own := true }, { t := 63, cs := [.int .i64 (.lit 4), .iface 75 (.ptr { blk := 1 })], own := true }, { t := 25, cs := [.int .i64 (.lit 0), .int .i64 (.lit 0), .int .i64 (.lit 0)], own := true }, { t := 25, cs := [.int .i64 (.var 2), .int .i64 (.var 3), .int .i64 (.var 4)], own := true }],  top := { f := 14, fr := [(20, .gd (.ieq (.var 3) (.lit 0)) (.one (.bool (.ilt (.var 4) (.lit 0))))), (19, .gd (.ieq (.var 3) (.lit 0)) (.one (.int .i64 (.var 4)))), (18, .w (.one (.bool (.not (.ieq (.var 3) (.lit 0)))))), (17, .w (.one (.bool (.not (.ieq (.var 3) (.lit 0)))))), (16, .gd (.ieq (.var 2) (.lit 0)) (.one (.bool (.not (.ieq (.var 3) (.lit 0)))))), (15, .gd (.ieq (.var 2) (.lit 0)) (.one (.int .i64 (.var 3)))), (14, .gd (.ieq (.var 2) (.lit 0)) (.one (.ptr { blk := 13, j := 1 }))), (13, .w (.one (.bool (.not (.ieq (.var 2) (.lit 0)))))), (12, .w (.one (.bool (.not (.ieq (.var 2) (.lit 0)))))), (11, .w (.one (.int .i64 (.var 2)))), (10, .w (.one (.ptr { blk := 13 }))), (6, .w (.one (.int .i64 (.var 4)))), (8, .w (.one (.int .i64 (.var 4)))), (7, .w (.one (.ptr { blk := 13, j := 2 }))), (5, .w (.one (.nilif))), (4, .w (.one (.int .i64 (.lit 0)))), (3, .w (.one (.int .i64 (.lit 0)))), (2, .w (.one (.str []))), (1, .w (.one (.ptr { blk := 13 }))), (0, .w (.agg [.int .i64 (.var 2), .int .i64 (.var 3), .int .i64 (.var 4)]))], cur := .reg [1, 1, 0, 0, 0] 11, todo := [.code [1, 1, 0, 0, 1], .blk 0, .code [1, 1, 1]] },  stk := [({ f := 4, fr := [(39, .w (.agg [.int .i64 (.var 2), .int .i64 (.var 3), .int .i64 (.var 4)])), (12, .w (.one (.iface 61 (.ptr { blk := 11 })))), (11, .w (.one (.ptr { blk := 12 }))), (37, .w (.one (.iface 61 (.ptr { blk := 11 })))), (36, .w (.agg [.int .i64 (.lit 0), .int .i64 (.lit 0), .int .i64 (.lit 0)])), (33, .tup [.agg [.int .i64 (.lit 0), .int .i64 (.lit 0), .int .i64 (.lit 0)], .one (.iface 61 (.ptr { blk := 11 }))]), (35, .tup [.agg [.int .i64 (.lit 0), .int .i64 (.lit 0), .int .i64 (.lit 0)], .one (.iface 61 (.ptr { blk := 11 }))]), (34, .w (.one (.int .i64 (.var 0)))), (10, .w (.one (.iface 61 (.ptr { blk := 8 })))), (9, .w (.one (.ptr { blk := 9 }))), (32, .w (.one (.iface 61 (.ptr { blk := 8 })))), (31, .w (.agg [.int .i64 (.lit 0), .int .i64 (.lit 0), .int .i64 (.lit 0)])), (27, .tup [.agg [.int .i64 (.lit 0), .int .i64 (.lit 0), .int .i64 (.lit 0)], .one (.iface 61 (.ptr { blk := 8 }))]), (30, .tup [.agg [.int .i64 (.lit 0), .int .i64 (.lit 0), .int .i64 (.lit 0)], .one (.iface 61 (.ptr { blk := 8 }))]), (29, .w (.one (.int .i64 (.var 1)))), (28, .w (.one (.int .i64 (.var 0)))), (8, .w (.one (.nilif))), (7, .w (.one (.ptr { blk := 6 }))), (26, .w (.one (.nilif))), (25, .w (.agg [.int .i64 (.lit 0), .int .i64 (.lit 0), .int .i64 (.var 1)])), (22, .tup [.agg [.int .i64 (.lit 0), .int .i64 (.lit 0), .int .i64 (.var 1)], .one (.nilif)]), (24, .tup [.agg [.int .i64 (.lit 0), .int .i64 (.lit 0), .int .i64 (.var 1)], .one (.nilif)]), (23, .w (.one (.int .i64 (.var 1)))), (21, .w (.one (.bool (.lit false)))), (20, .w (.one (.bool (.lit true)))), (6, .w (.one (.bool (.lit false)))), (5, .w (.one (.ptr { blk := 4 }))), (0, .w (.one (.int .i64 (.var 0)))), (1, .w (.one (.int .i64 (.var 1)))), (2, .w (.agg [.int .i64 (.var 2), .int .i64 (.var 3), .int .i64 (.var 4)]))], cur := .reg [1, 1, 1, 1, 1, 0] 1, todo := [.code [1, 1, 1, 1, 1, 1]] }, 1)] }
def ex_c12 : Cfg := { nv := 5, kn := [((.ieq (.var 3) (.lit 0)), true), ((.ieq (.var 2) (.lit 0)), true), ((.and (.ile (.lit 0) (.var 0)) (.ilt (.var 0) (.lit 6))), false), ((.inr .i64 (.var 1)), true), ((.ilt (.var 1) (.lit 0)), false), ((.ile (.lit 24) (.var 1)), false)],  gl := [(1, 0), (0, 2)], hp := [{ t := 27, cs := [.iface 75 (.ptr { blk := 1 })], ro := true }, { t := 100, cs := [.hole], ro := true }, { t := 27, cs := [.iface 75 (.ptr { blk := 3 })], ro := true }, { t := 100, cs := [.hole], ro := true }, { t := 25, cs := [.int .i64 (.var 2), .int .i64 (.var 3), .int .i64 (.var 4)], own := true }, { t := 25, cs := [.int .i64 (.lit 0), .int .i64 (.lit 0), .int .i64 (.var 1)], own := true }, { t := 25, cs := [.int .i64 (.lit 0), .int .i64 (.lit 0), .int .i64 (.var 1)], own := true }, { t := 25, cs := [.int .i64 (.lit 0), .int .i64 (.lit 0), .int .i64 (.lit 0)], own := true }, { t := 63, cs := [.int .i64 (.lit 4), .iface 75 (.ptr { blk := 1 })], own := true }, { t := 25, cs := [.int .i64 (.lit 0), .int .i64 (.lit 0), .int .i64 (.lit 0)], own := true }, { t := 25, cs := [.int .i64 (.lit 0), .int .i64 (.lit 0), .int .i64 (.lit 0)], own := true }, { t := 63, cs := [.int .i64 (.lit 4), .iface 75 (.ptr { blk := 1 })], own := true }, { t := 25, cs := [.int .i64 (.lit 0), .int .i64 (.lit 0), .int .i64 (.lit 0)], own := true }, { t := 25, cs := [.int .i64 (.var 2), .int .i64 (.var 3), .int .i64 (.var 4)], own := true }],  top := { f := 14, fr := [(20, .gd (.ieq (.var 3) (.lit 0)) (.one (.bool (.ilt (.var 4) (.lit 0))))), (19, .gd (.ieq (.var 3) (.lit 0)) (.one (.int .i64 (.var 4)))), (18, .w (.one (.bool (.not (.ieq (.var 3) (.lit 0)))))), (17, .w (.one (.bool (.not (.ieq (.var 3) (.lit 0)))))), (16, .gd (.ieq (.var 2) (.lit 0)) (.one (.bool (.not (.ieq (.var 3) (.lit 0)))))), (15, .gd (.ieq (.var 2) (.lit 0)) (.one (.int .i64 (.var 3)))), (14, .gd (.ieq (.var 2) (.lit 0)) (.one (.ptr { blk := 13, j := 1 }))), (13, .w (.one (.bool (.not (.ieq (.var 2) (.lit 0)))))), (12, .w (.one (.bool (.not (.ieq (.var 2) (.lit 0)))))), (11, .w (.one (.int .i64 (.var 2)))), (10, .w (.one (.ptr { blk := 13 }))), (6, .w (.one (.int .i64 (.var 4)))), (8, .w (.one (.int .i64 (.var 4)))), (7, .w (.one (.ptr { blk := 13, j := 2 }))), (5, .w (.one (.nilif))), (4, .w (.one (.int .i64 (.lit 0)))), (3, .w (.one (.int .i64 (.lit 0)))), (2, .w (.one (.str []))), (1, .w (.one (.ptr { blk := 13 }))), (0, .w (.agg [.int .i64 (.var 2), .int .i64 (.var 3), .int .i64 (.var 4)]))], cur := .reg [1, 1, 0, 0, 0] 11, todo := [.code [1, 1, 0, 0, 1], .blk 0, .code [1, 1, 1]] },  stk := [({ f := 4, fr := [(39, .w (.agg [.int .i64 (.var 2), .int .i64 (.var 3), .int .i64 (.var 4)])), (12, .w (.one (.iface 61 (.ptr { blk := 11 })))), (11, .w (.one (.ptr { blk := 12 }))), (37, .w (.one (.iface 61 (.ptr { blk := 11 })))), (36, .w (.agg [.int .i64 (.lit 0), .int .i64 (.lit 0), .int .i64 (.lit 0)])), (33, .tup [.agg [.int .i64 (.lit 0), .int .i64 (.lit 0), .int .i64 (.lit 0)], .one (.iface 61 (.ptr { blk := 11 }))]), (35, .tup [.agg [.int .i64 (.lit 0), .int .i64 (.lit 0), .int .i64 (.lit 0)], .one (.iface 61 (.ptr { blk := 11 }))]), (34, .w (.one (.int .i64 (.var 0)))), (10, .w (.one (.iface 61 (.ptr { blk := 8 })))), (9, .w (.one (.ptr { blk := 9 }))), (32, .w (.one (.iface 61 (.ptr { blk := 8 })))), (31, .w (.agg [.int .i64 (.lit 0), .int .i64 (.lit 0), .int .i64 (.lit 0)])), (27, .tup [.agg [.int .i64 (.lit 0), .int .i64 (.lit 0), .int .i64 (.lit 0)], .one (.iface 61 (.ptr { blk := 8 }))]), (30, .tup [.agg [.int .i64 (.lit 0), .int .i64 (.lit 0), .int .i64 (.lit 0)], .one (.iface 61 (.ptr { blk := 8 }))]), (29, .w (.one (.int .i64 (.var 1)))), (28, .w (.one (.int .i64 (.var 0)))), (8, .w (.one (.nilif))), (7, .w (.one (.ptr { blk := 6 }))), (26, .w (.one (.nilif))), (25, .w (.agg [.int .i64 (.lit 0), .int .i64 (.lit 0), .int .i64 (.var 1)])), (22, .tup [.agg [.int .i64 (.lit 0), .int .i64 (.lit 0), .int .i64 (.var 1)], .one (.nilif)]), (24, .tup [.agg [.int .i64 (.lit 0), .int .i64 (.lit 0), .int .i64 (.var 1)], .one (.nilif)]), (23, .w (.one (.int .i64 (.var 1)))), (21, .w (.one (.bool (.lit false)))), (20, .w (.one (.bool (.lit true)))), (6, .w (.one (.bool (.lit false)))), (5, .w (.one (.ptr { blk := 4 }))), (0, .w (.one (.int .i64 (.var 0)))), (1, .w (.one (.int .i64 (.var 1)))), (2, .w (.agg [.int .i64 (.var 2), .int .i64 (.var 3), .int .i64 (.var 4)]))], cur := .reg [1, 1, 1, 1, 1, 0] 1, todo := [.code [1, 1, 1, 1, 1, 1]] }, 1)] }
def ex_c13 : Cfg := { nv := 5, kn := [((.ieq (.var 2) (.lit 0)), false), ((.inr .i64 (.add (.lit 79) (.var 0))), true), ((.ile (.lit 9) (.var 1)), true), ((.ile (.lit 0) (.var 0)), true), ((.ilt (.var 0) (.lit 6)), true), ((.inr .i64 (.var 1)), true), ((.ilt (.var 1) (.lit 0)), false), ((.ile (.lit 24) (.var 1)), false)],  gl := [(1, 0), (0, 2)], hp := [{ t := 27, cs := [.iface 75 (.ptr { blk := 1 })], ro := true }, { t := 100, cs := [.hole], ro := true }, { t := 27, cs := [.iface 75 (.ptr { blk := 3 })], ro := true }, { t := 100, cs := [.hole], ro := true }, { t := 25, cs := [.int .i64 (.var 2), .int .i64 (.var 3), .int .i64 (.var 4)], own := true }, { t := 25, cs := [.int .i64 (.lit 0), .int .i64 (.lit 0), .int .i64 (.var 1)], own := true }, { t := 25, cs := [.int .i64 (.lit 0), .int .i64 (.lit 0), .int .i64 (.var 1)], own := true }, { t := 25, cs := [.int .i64 (.lit 0), .int .i64 (.lit 0), .int .i64 (.lit 0)], own := true }, { t := 63, cs := [.int .i64 (.lit 4), .iface 75 (.ptr { blk := 1 })], own := true }, { t := 25, cs := [.int .i64 (.lit 0), .int .i64 (.lit 0), .int .i64 (.lit 0)], own := true }, { t := 25, cs := [.int .i64 (.lit 0), .int .i64 (.lit 0), .int .i64 (.add (.lit 79) (.var 0))], own := true }, { t := 25, cs := [.int .i64 (.lit 0), .int .i64 (.lit 0), .int .i64 (.add (.lit 79) (.var 0))], own := true }, { t := 25, cs := [.int .i64 (.var 2), .int .i64 (.var 3), .int .i64 (.var 4)], own := true }],  top := { f := 14, fr := [(16, .gd (.ieq (.var 2) (.lit 0)) (.one (.bool (.not (.ieq (.var 3) (.lit 0)))))), (15, .gd (.ieq (.var 2) (.lit 0)) (.one (.int .i64 (.var 3)))), (14, .gd (.ieq (.var 2) (.lit 0)) (.one (.ptr { blk := 12, j := 1 }))), (13, .w (.one (.bool (.not (.ieq (.var 2) (.lit 0)))))), (12, .w (.one (.bool (.not (.ieq (.var 2) (.lit 0)))))), (11, .w (.one (.int .i64 (.var 2)))), (10, .w (.one (.ptr { blk := 12 }))), (6, .w (.one (.int .i64 (.var 4)))), (8, .w (.one (.int .i64 (.var 4)))), (7, .w (.one (.ptr { blk := 12, j := 2 }))), (5, .w (.one (.nilif))), (4, .w (.one (.int .i64 (.lit 0)))), (3, .w (.one (.int .i64 (.lit 0)))), (2, .w (.one (.str []))), (1, .w (.one (.ptr { blk := 12 }))), (0, .w (.agg [.int .i64 (.var 2), .int .i64 (.var 3), .int .i64 (.var 4)]))], cur := .reg [1, 1, 0, 0, 0] 7, todo := [.code [1, 1, 0, 0, 1], .blk 0, .code [1, 1, 1]] },  stk := [({ f := 4, fr := [(39, .w (.agg [.int .i64 (.var 2), .int .i64 (.var 3), .int .i64 (.var 4)])), (12, .w (.one (.nilif))), (11, .w (.one (.ptr { blk := 11 }))), (37, .w (.one (.nilif))), (36, .w (.agg [.int .i64 (.lit 0), .int .i64 (.lit 0), .int .i64 (.add (.lit 79) (.var 0))])), (33, .tup [.agg [.int .i64 (.lit 0), .int .i64 (.lit 0), .int .i64 (.add (.lit 79) (.var 0))], .one (.nilif)]), (35, .tup [.agg [.int .i64 (.lit 0), .int .i64 (.lit 0), .int .i64 (.add (.lit 79) (.var 0))], .one (.nilif)]), (34, .w (.one (.int .i64 (.var 0)))), (10, .w (.one (.iface 61 (.ptr { blk := 8 })))), (9, .w (.one (.ptr { blk := 9 }))), (32, .w (.one (.iface 61 (.ptr { blk := 8 })))), (31, .w (.agg [.int .i64 (.lit 0), .int .i64 (.lit 0), .int .i64 (.lit 0)])), (27, .tup [.agg [.int .i64 (.lit 0), .int .i64 (.lit 0), .int .i64 (.lit 0)], .one (.iface 61 (.ptr { blk := 8 }))]), (30, .tup [.agg [.int .i64 (.lit 0), .int .i64 (.lit 0), .int .i64 (.lit 0)], .one (.iface 61 (.ptr { blk := 8 }))]), (29, .w (.one (.int .i64 (.var 1)))), (28, .w (.one (.int .i64 (.var 0)))), (8, .w (.one (.nilif))), (7, .w (.one (.ptr { blk := 6 }))), (26, .w (.one (.nilif))), (25, .w (.agg [.int .i64 (.lit 0), .int .i64 (.lit 0), .int .i64 (.var 1)])), (22, .tup [.agg [.int .i64 (.lit 0), .int .i64 (.lit 0), .int .i64 (.var 1)], .one (.nilif)]), (24, .tup [.agg [.int .i64 (.lit 0), .int .i64 (.lit 0), .int .i64 (.var 1)], .one (.nilif)]), (23, .w (.one (.int .i64 (.var 1)))), (21, .w (.one (.bool (.lit false)))), (20, .w (.one (.bool (.lit true)))), (6, .w (.one (.bool (.lit false)))), (5, .w (.one (.ptr { blk := 4 }))), (0, .w (.one (.int .i64 (.var 0)))), (1, .w (.one (.int .i64 (.var 1)))), (2, .w (.agg [.int .i64 (.var 2), .int .i64 (.var 3), .int .i64 (.var 4)]))], cur := .reg [1, 1, 1, 1, 1, 0] 1, todo := [.code [1, 1, 1, 1, 1, 1]] }, 1)] }
def ex_c14 : Cfg := { nv := 5, kn := [((.ieq (.var 2) (.lit 0)), true), ((.inr .i64 (.add (.lit 79) (.var 0))), true), ((.ile (.lit 9) (.var 1)), true), ((.ile (.lit 0) (.var 0)), true), ((.ilt (.var 0) (.lit 6)), true), ((.inr .i64 (.var 1)), true), ((.ilt (.var 1) (.lit 0)), false), ((.ile (.lit 24) (.var 1)), false)],  gl := [(1, 0), (0, 2)], hp := [{ t := 27, cs := [.iface 75 (.ptr { blk := 1 })], ro := true }, { t := 100, cs := [.hole], ro := true }, { t := 27, cs := [.iface 75 (.ptr { blk := 3 })], ro := true }, { t := 100, cs := [.hole], ro := true }, { t := 25, cs := [.int .i64 (.var 2), .int .i64 (.var 3), .int .i64 (.var 4)], own := true }, { t := 25, cs := [.int .i64 (.lit 0), .int .i64 (.lit 0), .int .i64 (.var 1)], own := true }, { t := 25, cs := [.int .i64 (.lit 0), .int .i64 (.lit 0), .int .i64 (.var 1)], own := true }, { t := 25, cs := [.int .i64 (.lit 0), .int .i64 (.lit 0), .int .i64 (.lit 0)], own := true }, { t := 63, cs := [.int .i64 (.lit 4), .iface 75 (.ptr { blk := 1 })], own := true }, { t := 25, cs := [.int .i64 (.lit 0), .int .i64 (.lit 0), .int .i64 (.lit 0)], own := true }, { t := 25, cs := [.int .i64 (.lit 0), .int .i64 (.lit 0), .int .i64 (.add (.lit 79) (.var 0))], own := true }, { t := 25, cs := [.int .i64 (.lit 0), .int .i64 (.lit 0), .int .i64 (.add (.lit 79) (.var 0))], own := true }, { t := 25, cs := [.int .i64 (.var 2), .int .i64 (.var 3), .int .i64 (.var 4)], own := true }],  top := { f := 14, fr := [(16, .gd (.ieq (.var 2) (.lit 0)) (.one (.bool (.not (.ieq (.var 3) (.lit 0)))))), (15, .gd (.ieq (.var 2) (.lit 0)) (.one (.int .i64 (.var 3)))), (14, .gd (.ieq (.var 2) (.lit 0)) (.one (.ptr { blk := 12, j := 1 }))), (13, .w (.one (.bool (.not (.ieq (.var 2) (.lit 0)))))), (12, .w (.one (.bool (.not (.ieq (.var 2) (.lit 0)))))), (11, .w (.one (.int .i64 (.var 2)))), (10, .w (.one (.ptr { blk := 12 }))), (6, .w (.one (.int .i64 (.var 4)))), (8, .w (.one (.int .i64 (.var 4)))), (7, .w (.one (.ptr { blk := 12, j := 2 }))), (5, .w (.one (.nilif))), (4, .w (.one (.int .i64 (.lit 0)))), (3, .w (.one (.int .i64 (.lit 0)))), (2, .w (.one (.str []))), (1, .w (.one (.ptr { blk := 12 }))), (0, .w (.agg [.int .i64 (.var 2), .int .i64 (.var 3), .int .i64 (.var 4)]))], cur := .reg [1, 1, 0, 0, 0] 7, todo := [.code [1, 1, 0, 0, 1], .blk 0, .code [1, 1, 1]] },  stk := [({ f := 4, fr := [(39, .w (.agg [.int .i64 (.var 2), .int .i64 (.var 3), .int .i64 (.var 4)])), (12, .w (.one (.nilif))), (11, .w (.one (.ptr { blk := 11 }))), (37, .w (.one (.nilif))), (36, .w (.agg [.int .i64 (.lit 0), .int .i64 (.lit 0), .int .i64 (.add (.lit 79) (.var 0))])), (33, .tup [.agg [.int .i64 (.lit 0), .int .i64 (.lit 0), .int .i64 (.add (.lit 79) (.var 0))], .one (.nilif)]), (35, .tup [.agg [.int .i64 (.lit 0), .int .i64 (.lit 0), .int .i64 (.add (.lit 79) (.var 0))], .one (.nilif)]), (34, .w (.one (.int .i64 (.var 0)))), (10, .w (.one (.iface 61 (.ptr { blk := 8 })))), (9, .w (.one (.ptr { blk := 9 }))), (32, .w (.one (.iface 61 (.ptr { blk := 8 })))), (31, .w (.agg [.int .i64 (.lit 0), .int .i64 (.lit 0), .int .i64 (.lit 0)])), (27, .tup [.agg [.int .i64 (.lit 0), .int .i64 (.lit 0), .int .i64 (.lit 0)], .one (.iface 61 (.ptr { blk := 8 }))]), (30, .tup [.agg [.int .i64 (.lit 0), .int .i64 (.lit 0), .int .i64 (.lit 0)], .one (.iface 61 (.ptr { blk := 8 }))]), (29, .w (.one (.int .i64 (.var 1)))), (28, .w (.one (.int .i64 (.var 0)))), (8, .w (.one (.nilif))), (7, .w (.one (.ptr { blk := 6 }))), (26, .w (.one (.nilif))), (25, .w (.agg [.int .i64 (.lit 0), .int .i64 (.lit 0), .int .i64 (.var 1)])), (22, .tup [.agg [.int .i64 (.lit 0), .int .i64 (.lit 0), .int .i64 (.var 1)], .one (.nilif)]), (24, .tup [.agg [.int .i64 (.lit 0), .int .i64 (.lit 0), .int .i64 (.var 1)], .one (.nilif)]), (23, .w (.one (.int .i64 (.var 1)))), (21, .w (.one (.bool (.lit false)))), (20, .w (.one (.bool (.lit true)))), (6, .w (.one (.bool (.lit false)))), (5, .w (.one (.ptr { blk := 4 }))), (0, .w (.one (.int .i64 (.var 0)))), (1, .w (.one (.int .i64 (.var 1)))), (2, .w (.agg [.int .i64 (.var 2), .int .i64 (.var 3), .int .i64 (.var 4)]))], cur := .reg [1, 1, 1, 1, 1, 0] 1, todo := [.code [1, 1, 1, 1, 1, 1]] }, 1)] }
def ex_c15 : Cfg := { nv := 5, kn := [((.ieq (.var 2) (.lit 0)), false), ((.inr .i64 (.add (.lit 79) (.var 0))), true), ((.inr .i64 (.add (.add (.lit 25) (.mul (.var 0) (.lit 9))) (.var 1))), true), ((.inr .i64 (.add (.lit 25) (.mul (.var 0) (.lit 9)))), true), ((.inr .i64 (.mul (.var 0) (.lit 9))), true), ((.ile (.lit 9) (.var 1)), false), ((.ile (.lit 0) (.var 0)), true), ((.ilt (.var 0) (.lit 6)), true), ((.inr .i64 (.var 1)), true), ((.ilt (.var 1) (.lit 0)), false), ((.ile (.lit 24) (.var 1)), false)],  gl := [(1, 0), (0, 2)], hp := [{ t := 27, cs := [.iface 75 (.ptr { blk := 1 })], ro := true }, { t := 100, cs := [.hole], ro := true }, { t := 27, cs := [.iface 75 (.ptr { blk := 3 })], ro := true }, { t := 100, cs := [.hole], ro := true }, { t := 25, cs := [.int .i64 (.var 2), .int .i64 (.var 3), .int .i64 (.var 4)], own := true }, { t := 25, cs := [.int .i64 (.lit 0), .int .i64 (.lit 0), .int .i64 (.var 1)], own := true }, { t := 25, cs := [.int .i64 (.lit 0), .int .i64 (.lit 0), .int .i64 (.var 1)], own := true }, { t := 25, cs := [.int .i64 (.lit 0), .int .i64 (.lit 0), .int .i64 (.add (.add (.lit 25) (.mul (.var 0) (.lit 9))) (.var 1))], own := true }, { t := 25, cs := [.int .i64 (.lit 0), .int .i64 (.lit 0), .int .i64 (.add (.add (.lit 25) (.mul (.var 0) (.lit 9))) (.var 1))], own := true }, { t := 25, cs := [.int .i64 (.lit 0), .int .i64 (.lit 0), .int .i64 (.add (.lit 79) (.var 0))], own := true }, { t := 25, cs := [.int .i64 (.lit 0), .int .i64 (.lit 0), .int .i64 (.add (.lit 79) (.var 0))], own := true }, { t := 25, cs := [.int .i64 (.var 2), .int .i64 (.var 3), .int .i64 (.var 4)], own := true }],  top := { f := 14, fr := [(16, .gd (.ieq (.var 2) (.lit 0)) (.one (.bool (.not (.ieq (.var 3) (.lit 0)))))), (15, .gd (.ieq (.var 2) (.lit 0)) (.one (.int .i64 (.var 3)))), (14, .gd (.ieq (.var 2) (.lit 0)) (.one (.ptr { blk := 11, j := 1 }))), (13, .w (.one (.bool (.not (.ieq (.var 2) (.lit 0)))))), (12, .w (.one (.bool (.not (.ieq (.var 2) (.lit 0)))))), (11, .w (.one (.int .i64 (.var 2)))), (10, .w (.one (.ptr { blk := 11 }))), (6, .w (.one (.int .i64 (.var 4)))), (8, .w (.one (.int .i64 (.var 4)))), (7, .w (.one (.ptr { blk := 11, j := 2 }))), (5, .w (.one (.nilif))), (4, .w (.one (.int .i64 (.lit 0)))), (3, .w (.one (.int .i64 (.lit 0)))), (2, .w (.one (.str []))), (1, .w (.one (.ptr { blk := 11 }))), (0, .w (.agg [.int .i64 (.var 2), .int .i64 (.var 3), .int .i64 (.var 4)]))], cur := .reg [1, 1, 0, 0, 0] 7, todo := [.code [1, 1, 0, 0, 1], .blk 0, .code [1, 1, 1]] },  stk := [({ f := 4, fr := [(39, .w (.agg [.int .i64 (.var 2), .int .i64 (.var 3), .int .i64 (.var 4)])), (12, .w (.one (.nilif))), (11, .w (.one (.ptr { blk := 10 }))), (37, .w (.one (.nilif))), (36, .w (.agg [.int .i64 (.lit 0), .int .i64 (.lit 0), .int .i64 (.add (.lit 79) (.var 0))])), (33, .tup [.agg [.int .i64 (.lit 0), .int .i64 (.lit 0), .int .i64 (.add (.lit 79) (.var 0))], .one (.nilif)]), (35, .tup [.agg [.int .i64 (.lit 0), .int .i64 (.lit 0), .int .i64 (.add (.lit 79) (.var 0))], .one (.nilif)]), (34, .w (.one (.int .i64 (.var 0)))), (10, .w (.one (.nilif))), (9, .w (.one (.ptr { blk := 8 }))), (32, .w (.one (.nilif))), (31, .w (.agg [.int .i64 (.lit 0), .int .i64 (.lit 0), .int .i64 (.add (.add (.lit 25) (.mul (.var 0) (.lit 9))) (.var 1))])), (27, .tup [.agg [.int .i64 (.lit 0), .int .i64 (.lit 0), .int .i64 (.add (.add (.lit 25) (.mul (.var 0) (.lit 9))) (.var 1))], .one (.nilif)]), (30, .tup [.agg [.int .i64 (.lit 0), .int .i64 (.lit 0), .int .i64 (.add (.add (.lit 25) (.mul (.var 0) (.lit 9))) (.var 1))], .one (.nilif)]), (29, .w (.one (.int .i64 (.var 1)))), (28, .w (.one (.int .i64 (.var 0)))), (8, .w (.one (.nilif))), (7, .w (.one (.ptr { blk := 6 }))), (26, .w (.one (.nilif))), (25, .w (.agg [.int .i64 (.lit 0), .int .i64 (.lit 0), .int .i64 (.var 1)])), (22, .tup [.agg [.int .i64 (.lit 0), .int .i64 (.lit 0), .int .i64 (.var 1)], .one (.nilif)]), (24, .tup [.agg [.int .i64 (.lit 0), .int .i64 (.lit 0), .int .i64 (.var 1)], .one (.nilif)]), (23, .w (.one (.int .i64 (.var 1)))), (21, .w (.one (.bool (.lit false)))), (20, .w (.one (.bool (.lit true)))), (6, .w (.one (.bool (.lit false)))), (5, .w (.one (.ptr { blk := 4 }))), (0, .w (.one (.int .i64 (.var 0)))), (1, .w (.one (.int .i64 (.var 1)))), (2, .w (.agg [.int .i64 (.var 2), .int .i64 (.var 3), .int .i64 (.var 4)]))], cur := .reg [1, 1, 1, 1, 1, 0] 1, todo := [.code [1, 1, 1, 1, 1, 1]] }, 1)] }
def ex_c16 : Cfg := { nv := 5, kn := [((.ieq (.var 2) (.lit 0)), true), ((.inr .i64 (.add (.lit 79) (.var 0))), true), ((.inr .i64 (.add (.add (.lit 25) (.mul (.var 0) (.lit 9))) (.var 1))), true), ((.inr .i64 (.add (.lit 25) (.mul (.var 0) (.lit 9)))), true), ((.inr .i64 (.mul (.var 0) (.lit 9))), true), ((.ile (.lit 9) (.var 1)), false), ((.ile (.lit 0) (.var 0)), true), ((.ilt (.var 0) (.lit 6)), true), ((.inr .i64 (.var 1)), true), ((.ilt (.var 1) (.lit 0)), false), ((.ile (.lit 24) (.var 1)), false)],  gl := [(1, 0), (0, 2)], hp := [{ t := 27, cs := [.iface 75 (.ptr { blk := 1 })], ro := true }, { t := 100, cs := [.hole], ro := true }, { t := 27, cs := [.iface 75 (.ptr { blk := 3 })], ro := true }, { t := 100, cs := [.hole], ro := true }, { t := 25, cs := [.int .i64 (.var 2), .int .i64 (.var 3), .int .i64 (.var 4)], own := true }, { t := 25, cs := [.int .i64 (.lit 0), .int .i64 (.lit 0), .int .i64 (.var 1)], own := true }, { t := 25, cs := [.int .i64 (.lit 0), .int .i64 (.lit 0), .int .i64 (.var 1)], own := true }, { t := 25, cs := [.int .i64 (.lit 0), .int .i64 (.lit 0), .int .i64 (.add (.add (.lit 25) (.mul (.var 0) (.lit 9))) (.var 1))], own := true }, { t := 25, cs := [.int .i64 (.lit 0), .int .i64 (.lit 0), .int .i64 (.add (.add (.lit 25) (.mul (.var 0) (.lit 9))) (.var 1))], own := true }, { t := 25, cs := [.int .i64 (.lit 0), .int .i64 (.lit 0), .int .i64 (.add (.lit 79) (.var 0))], own := true }, { t := 25, cs := [.int .i64 (.lit 0), .int .i64 (.lit 0), .int .i64 (.add (.lit 79) (.var 0))], own := true }, { t := 25, cs := [.int .i64 (.var 2), .int .i64 (.var 3), .int .i64 (.var 4)], own := true }],  top := { f := 14, fr := [(16, .gd (.ieq (.var 2) (.lit 0)) (.one (.bool (.not (.ieq (.var 3) (.lit 0)))))), (15, .gd (.ieq (.var 2) (.lit 0)) (.one (.int .i64 (.var 3)))), (14, .gd (.ieq (.var 2) (.lit 0)) (.one (.ptr { blk := 11, j := 1 }))), (13, .w (.one (.bool (.not (.ieq (.var 2) (.lit 0)))))), (12, .w (.one (.bool (.not (.ieq (.var 2) (.lit 0)))))), (11, .w (.one (.int .i64 (.var 2)))), (10, .w (.one (.ptr { blk := 11 }))), (6, .w (.one (.int .i64 (.var 4)))), (8, .w (.one (.int .i64 (.var 4)))), (7, .w (.one (.ptr { blk := 11, j := 2 }))), (5, .w (.one (.nilif))), (4, .w (.one (.int .i64 (.lit 0)))), (3, .w (.one (.int .i64 (.lit 0)))), (2, .w (.one (.str []))), (1, .w (.one (.ptr { blk := 11 }))), (0, .w (.agg [.int .i64 (.var 2), .int .i64 (.var 3), .int .i64 (.var 4)]))], cur := .reg [1, 1, 0, 0, 0] 7, todo := [.code [1, 1, 0, 0, 1], .blk 0, .code [1, 1, 1]] },  stk := [({ f := 4, fr := [(39, .w (.agg [.int .i64 (.var 2), .int .i64 (.var 3), .int .i64 (.var 4)])), (12, .w (.one (.nilif))), (11, .w (.one (.ptr { blk := 10 }))), (37, .w (.one (.nilif))), (36, .w (.agg [.int .i64 (.lit 0), .int .i64 (.lit 0), .int .i64 (.add (.lit 79) (.var 0))])), (33, .tup [.agg [.int .i64 (.lit 0), .int .i64 (.lit 0), .int .i64 (.add (.lit 79) (.var 0))], .one (.nilif)]), (35, .tup [.agg [.int .i64 (.lit 0), .int .i64 (.lit 0), .int .i64 (.add (.lit 79) (.var 0))], .one (.nilif)]), (34, .w (.one (.int .i64 (.var 0)))), (10, .w (.one (.nilif))), (9, .w (.one (.ptr { blk := 8 }))), (32, .w (.one (.nilif))), (31, .w (.agg [.int .i64 (.lit 0), .int .i64 (.lit 0), .int .i64 (.add (.add (.lit 25) (.mul (.var 0) (.lit 9))) (.var 1))])), (27, .tup [.agg [.int .i64 (.lit 0), .int .i64 (.lit 0), .int .i64 (.add (.add (.lit 25) (.mul (.var 0) (.lit 9))) (.var 1))], .one (.nilif)]), (30, .tup [.agg [.int .i64 (.lit 0), .int .i64 (.lit 0), .int .i64 (.add (.add (.lit 25) (.mul (.var 0) (.lit 9))) (.var 1))], .one (.nilif)]), (29, .w (.one (.int .i64 (.var 1)))), (28, .w (.one (.int .i64 (.var 0)))), (8, .w (.one (.nilif))), (7, .w (.one (.ptr { blk := 6 }))), (26, .w (.one (.nilif))), (25, .w (.agg [.int .i64 (.lit 0), .int .i64 (.lit 0), .int .i64 (.var 1)])), (22, .tup [.agg [.int .i64 (.lit 0), .int .i64 (.lit 0), .int .i64 (.var 1)], .one (.nilif)]), (24, .tup [.agg [.int .i64 (.lit 0), .int .i64 (.lit 0), .int .i64 (.var 1)], .one (.nilif)]), (23, .w (.one (.int .i64 (.var 1)))), (21, .w (.one (.bool (.lit false)))), (20, .w (.one (.bool (.lit true)))), (6, .w (.one (.bool (.lit false)))), (5, .w (.one (.ptr { blk := 4 }))), (0, .w (.one (.int .i64 (.var 0)))), (1, .w (.one (.int .i64 (.var 1)))), (2, .w (.agg [.int .i64 (.var 2), .int .i64 (.var 3), .int .i64 (.var 4)]))], cur := .reg [1, 1, 1, 1, 1, 0] 1, todo := [.code [1, 1, 1, 1, 1, 1]] }, 1)] }
def ex_c17 : Cfg := { nv := 5, kn := [((.ilt (.add (.lit 79) (.var 0)) (.lit 0)), true), ((.and (.ile (.lit 0) (.var 1)) (.ilt (.var 1) (.lit 9))), false), ((.and (.ile (.lit 0) (.var 1)) (.ilt (.var 1) (.lit 24))), false), ((.ieq (.var 3) (.lit 0)), false), ((.ieq (.var 2) (.lit 0)), true), ((.inr .i64 (.add (.lit 79) (.var 0))), true), ((.or (.ilt (.var 1) (.lit 0)) (.ile (.lit 9) (.var 1))), true), ((.ile (.lit 0) (.var 0)), true), ((.ilt (.var 0) (.lit 6)), true), ((.or (.ilt (.var 1) (.lit 0)) (.ile (.lit 24) (.var 1))), true)],  gl := [(1, 0), (0, 2)], hp := [{ t := 27, cs := [.iface 75 (.ptr { blk := 1 })], ro := true }, { t := 100, cs := [.hole], ro := true }, { t := 27, cs := [.iface 75 (.ptr { blk := 3 })], ro := true }, { t := 100, cs := [.hole], ro := true }, { t := 25, cs := [.int .i64 (.var 2), .int .i64 (.var 3), .int .i64 (.var 4)], own := true }, { t := 25, cs := [.int .i64 (.lit 0), .int .i64 (.lit 0), .int .i64 (.lit 0)], own := true }, { t := 63, cs := [.int .i64 (.lit 4), .iface 75 (.ptr { blk := 1 })], own := true }, { t := 25, cs := [.int .i64 (.lit 0), .int .i64 (.lit 0), .int .i64 (.lit 0)], own := true }, { t := 25, cs := [.int .i64 (.lit 0), .int .i64 (.lit 0), .int .i64 (.lit 0)], own := true }, { t := 63, cs := [.int .i64 (.lit 4), .iface 75 (.ptr { blk := 1 })], own := true }, { t := 25, cs := [.int .i64 (.lit 0), .int .i64 (.lit 0), .int .i64 (.lit 0)], own := true }, { t := 25, cs := [.int .i64 (.lit 0), .int .i64 (.lit 0), .int .i64 (.add (.lit 79) (.var 0))], own := true }, { t := 25, cs := [.int .i64 (.lit 0), .int .i64 (.lit 0), .int .i64 (.add (.lit 79) (.var 0))], own := true }, { t := 25, cs := [.int .i64 (.var 2), .int .i64 (.var 3), .int .i64 (.var 4)], own := true }, { t := 63, cs := [.int .i64 (.lit 4), .iface 75 (.ptr { blk := 3 })], own := true }, { t := 25, cs := [.int .i64 (.var 2), .int .i64 (.var 3), .int .i64 (.var 4)], own := true }, { t := 25, cs := [.int .i64 (.lit 0), .int .i64 (.lit 0), .int .i64 (.lit 0)], own := true }, { t := 25, cs := [.int .i64 (.lit 0), .int .i64 (.lit 0), .int .i64 (.lit 0)], own := true }, { t := 25, cs := [.int .i64 (.lit 0), .int .i64 (.lit 0), .int .i64 (.add (.lit 79) (.var 0))], own := true }],  top := { f := 16, fr := [(8, .w (.one (.bool (.ilt (.add (.lit 79) (.var 0)) (.lit 0))))), (7, .w (.one (.int .i64 (.add (.lit 79) (.var 0))))), (6, .w (.one (.bool (.lit false)))), (3, .w (.one (.ptr { blk := 18 }))), (0, .w (.agg [.int .i64 (.lit 0), .int .i64 (.lit 0), .int .i64 (.add (.lit 79) (.var 0))])), (1, .w (.one (.nilif))), (2, .w (.one (.int .i64 (.add (.lit 79) (.var 0)))))], cur := .none, todo := [.code [1, 0, 1], .code [1, 1]] },  stk := [({ f := 4, fr := [(68, .w (.one (.int .i64 (.add (.lit 79) (.var 0))))), (65, .w (.agg [.int .i64 (.lit 0), .int .i64 (.lit 0), .int .i64 (.add (.lit 79) (.var 0))])), (67, .w (.one (.int .i64 (.var 0)))), (66, .w (.one (.nilif))), (64, .w (.one (.bool (.lit true)))), (63, .w (.one (.bool (.lit true)))), (62, .w (.one (.bool (.lit true)))), (61, .w (.one (.int .i64 (.lit (-1))))), (57, .w (.agg [.int .i64 (.lit 0), .int .i64 (.lit 0), .int .i64 (.lit 0)])), (60, .w (.one (.int .i64 (.var 1)))), (59, .w (.one (.int .i64 (.var 0)))), (58, .w (.one (.iface 61 (.ptr { blk := 9 })))), (56, .w (.one (.bool (.lit true)))), (55, .w (.one (.bool (.lit true)))), (54, .w (.one (.int .i64 (.lit (-1))))), (51, .w (.agg [.int .i64 (.lit 0), .int .i64 (.lit 0), .int .i64 (.lit 0)])), (53, .w (.one (.int .i64 (.var 1)))), (52, .w (.one (.iface 61 (.ptr { blk := 6 })))), (19, .w (.one (.int .i64 (.lit 0)))), (18, .w (.one (.int .i64 (.lit 0)))), (17, .w (.one (.str []))), (50, .w (.one (.int .i64 (.lit 0)))), (49, .w (.one (.int .i64 (.lit 0)))), (48, .w (.one (.str []))), (45, .tup [.one (.str []), .one (.int .i64 (.lit 0)), .one (.int .i64 (.lit 0))]), (47, .tup [.one (.str []), .one (.int .i64 (.lit 0)), .one (.int .i64 (.lit 0))]), (46, .w (.agg [.int .i64 (.var 2), .int .i64 (.var 3), .int .i64 (.var 4)])), (16, .w (.one (.iface 61 (.ptr { blk := 14 })))), (15, .w (.one (.int .i64 (.lit 0)))), (14, .w (.one (.int .i64 (.lit 0)))), (13, .w (.one (.str []))), (44, .w (.one (.iface 61 (.ptr { blk := 14 })))), (43, .w (.one (.int .i64 (.lit 0)))), (42, .w (.one (.int .i64 (.lit 0)))), (41, .w (.one (.str []))), (38, .tup [.one (.str []), .one (.int .i64 (.lit 0)), .one (.int .i64 (.lit 0)), .one (.iface 61 (.ptr { blk := 14 }))]), (40, .tup [.one (.str []), .one (.int .i64 (.lit 0)), .one (.int .i64 (.lit 0)), .one (.iface 61 (.ptr { blk := 14 }))]), (39, .w (.agg [.int .i64 (.var 2), .int .i64 (.var 3), .int .i64 (.var 4)])), (12, .w (.one (.nilif))), (11, .w (.one (.ptr { blk := 12 }))), (37, .w (.one (.nilif))), (36, .w (.agg [.int .i64 (.lit 0), .int .i64 (.lit 0), .int .i64 (.add (.lit 79) (.var 0))])), (33, .tup [.agg [.int .i64 (.lit 0), .int .i64 (.lit 0), .int .i64 (.add (.lit 79) (.var 0))], .one (.nilif)]), (35, .tup [.agg [.int .i64 (.lit 0), .int .i64 (.lit 0), .int .i64 (.add (.lit 79) (.var 0))], .one (.nilif)]), (34, .w (.one (.int .i64 (.var 0)))), (10, .w (.one (.iface 61 (.ptr { blk := 9 })))), (9, .w (.one (.ptr { blk := 10 }))), (32, .w (.one (.iface 61 (.ptr { blk := 9 })))), (31, .w (.agg [.int .i64 (.lit 0), .int .i64 (.lit 0), .int .i64 (.lit 0)])), (27, .tup [.agg [.int .i64 (.lit 0), .int .i64 (.lit 0), .int .i64 (.lit 0)], .one (.iface 61 (.ptr { blk := 9 }))]), (30, .tup [.agg [.int .i64 (.lit 0), .int .i64 (.lit 0), .int .i64 (.lit 0)], .one (.iface 61 (.ptr { blk := 9 }))]), (29, .w (.one (.int .i64 (.var 1)))), (28, .w (.one (.int .i64 (.var 0)))), (8, .w (.one (.iface 61 (.ptr { blk := 6 })))), (7, .w (.one (.ptr { blk := 7 }))), (26, .w (.one (.iface 61 (.ptr { blk := 6 })))), (25, .w (.agg [.int .i64 (.lit 0), .int .i64 (.lit 0), .int .i64 (.lit 0)])), (22, .tup [.agg [.int .i64 (.lit 0), .int .i64 (.lit 0), .int .i64 (.lit 0)], .one (.iface 61 (.ptr { blk := 6 }))]), (24, .tup [.agg [.int .i64 (.lit 0), .int .i64 (.lit 0), .int .i64 (.lit 0)], .one (.iface 61 (.ptr { blk := 6 }))]), (23, .w (.one (.int .i64 (.var 1)))), (21, .w (.one (.bool (.lit false)))), (20, .w (.one (.bool (.lit true)))), (6, .w (.one (.bool (.lit false)))), (5, .w (.one (.ptr { blk := 4 }))), (0, .w (.one (.int .i64 (.var 0)))), (1, .w (.one (.int .i64 (.var 1)))), (2, .w (.agg [.int .i64 (.var 2), .int .i64 (.var 3), .int .i64 (.var 4)]))], cur := .dr [1, 1, 1, 1, 1, 1, 1, 0] (.solo 18 <| .solo 19 <| .solo 20 <| .take 21 <| .solo 22 <| .solo 23 <| .solo 24 <| .solo 25 <| .take 26 <| .solo 27 <| .solo 28 <| .solo 29 <| .solo 30 <| .take 31 <| .solo 32 <| .solo 33 <| .solo 34 <| .solo 35 <| .take 36 <| .take 37 <| .solo 38 <| .solo 39 <| .solo 40 <| .solo 41 <| .solo 42 <| .solo 43 <| .solo 44 <| .solo 45 <| .take 46 <| .solo 47 <| .solo 48 <| .solo 49 <| .solo 50 <| .solo 51 <| .nil) [{ t := 0, gone := true }, { t := 0, gone := true }, { t := 0, gone := true }, { t := 0, gone := true }, { t := 0, gone := true }, { t := 0, gone := true }, { t := 0, gone := true }, { t := 25, cs := [.int .i64 (.lit 0), .int .i64 (.lit 0), .int .i64 (.lit 0)], own := true }, { t := 0, gone := true }, { t := 0, gone := true }, { t := 25, cs := [.int .i64 (.lit 0), .int .i64 (.lit 0), .int .i64 (.lit 0)], own := true }, { t := 0, gone := true }, { t := 25, cs := [.int .i64 (.lit 0), .int .i64 (.lit 0), .int .i64 (.add (.lit 79) (.var 0))], own := true }] false, todo := [.code [1, 1, 1, 1, 1, 1, 1, 1]] }, 18)] }
def ex_c18 : Cfg := { nv := 5, kn := [((.ilt (.add (.lit 79) (.var 0)) (.lit 0)), false), ((.and (.ile (.lit 0) (.var 1)) (.ilt (.var 1) (.lit 9))), false), ((.and (.ile (.lit 0) (.var 1)) (.ilt (.var 1) (.lit 24))), false), ((.ieq (.var 3) (.lit 0)), false), ((.ieq (.var 2) (.lit 0)), true), ((.inr .i64 (.add (.lit 79) (.var 0))), true), ((.or (.ilt (.var 1) (.lit 0)) (.ile (.lit 9) (.var 1))), true), ((.ile (.lit 0) (.var 0)), true), ((.ilt (.var 0) (.lit 6)), true), ((.or (.ilt (.var 1) (.lit 0)) (.ile (.lit 24) (.var 1))), true)],  gl := [(1, 0), (0, 2)], hp := [{ t := 27, cs := [.iface 75 (.ptr { blk := 1 })], ro := true }, { t := 100, cs := [.hole], ro := true }, { t := 27, cs := [.iface 75 (.ptr { blk := 3 })], ro := true }, { t := 100, cs := [.hole], ro := true }, { t := 25, cs := [.int .i64 (.var 2), .int .i64 (.var 3), .int .i64 (.var 4)], own := true }, { t := 25, cs := [.int .i64 (.lit 0), .int .i64 (.lit 0), .int .i64 (.lit 0)], own := true }, { t := 63, cs := [.int .i64 (.lit 4), .iface 75 (.ptr { blk := 1 })], own := true }, { t := 25, cs := [.int .i64 (.lit 0), .int .i64 (.lit 0), .int .i64 (.lit 0)], own := true }, { t := 25, cs := [.int .i64 (.lit 0), .int .i64 (.lit 0), .int .i64 (.lit 0)], own := true }, { t := 63, cs := [.int .i64 (.lit 4), .iface 75 (.ptr { blk := 1 })], own := true }, { t := 25, cs := [.int .i64 (.lit 0), .int .i64 (.lit 0), .int .i64 (.lit 0)], own := true }, { t := 25, cs := [.int .i64 (.lit 0), .int .i64 (.lit 0), .int .i64 (.add (.lit 79) (.var 0))], own := true }, { t := 25, cs := [.int .i64 (.lit 0), .int .i64 (.lit 0), .int .i64 (.add (.lit 79) (.var 0))], own := true }, { t := 25, cs := [.int .i64 (.var 2), .int .i64 (.var 3), .int .i64 (.var 4)], own := true }, { t := 63, cs := [.int .i64 (.lit 4), .iface 75 (.ptr { blk := 3 })], own := true }, { t := 25, cs := [.int .i64 (.var 2), .int .i64 (.var 3), .int .i64 (.var 4)], own := true }, { t := 25, cs := [.int .i64 (.lit 0), .int .i64 (.lit 0), .int .i64 (.lit 0)], own := true }, { t := 25, cs := [.int .i64 (.lit 0), .int .i64 (.lit 0), .int .i64 (.lit 0)], own := true }, { t := 25, cs := [.int .i64 (.lit 0), .int .i64 (.lit 0), .int .i64 (.add (.lit 79) (.var 0))], own := true }],  top := { f := 16, fr := [(8, .w (.one (.bool (.ilt (.add (.lit 79) (.var 0)) (.lit 0))))), (7, .w (.one (.int .i64 (.add (.lit 79) (.var 0))))), (6, .w (.one (.bool (.lit false)))), (3, .w (.one (.ptr { blk := 18 }))), (0, .w (.agg [.int .i64 (.lit 0), .int .i64 (.lit 0), .int .i64 (.add (.lit 79) (.var 0))])), (1, .w (.one (.nilif))), (2, .w (.one (.int .i64 (.add (.lit 79) (.var 0)))))], cur := .none, todo := [.code [1, 0, 1], .code [1, 1]] },  stk := [({ f := 4, fr := [(68, .w (.one (.int .i64 (.add (.lit 79) (.var 0))))), (65, .w (.agg [.int .i64 (.lit 0), .int .i64 (.lit 0), .int .i64 (.add (.lit 79) (.var 0))])), (67, .w (.one (.int .i64 (.var 0)))), (66, .w (.one (.nilif))), (64, .w (.one (.bool (.lit true)))), (63, .w (.one (.bool (.lit true)))), (62, .w (.one (.bool (.lit true)))), (61, .w (.one (.int .i64 (.lit (-1))))), (57, .w (.agg [.int .i64 (.lit 0), .int .i64 (.lit 0), .int .i64 (.lit 0)])), (60, .w (.one (.int .i64 (.var 1)))), (59, .w (.one (.int .i64 (.var 0)))), (58, .w (.one (.iface 61 (.ptr { blk := 9 })))), (56, .w (.one (.bool (.lit true)))), (55, .w (.one (.bool (.lit true)))), (54, .w (.one (.int .i64 (.lit (-1))))), (51, .w (.agg [.int .i64 (.lit 0), .int .i64 (.lit 0), .int .i64 (.lit 0)])), (53, .w (.one (.int .i64 (.var 1)))), (52, .w (.one (.iface 61 (.ptr { blk := 6 })))), (19, .w (.one (.int .i64 (.lit 0)))), (18, .w (.one (.int .i64 (.lit 0)))), (17, .w (.one (.str []))), (50, .w (.one (.int .i64 (.lit 0)))), (49, .w (.one (.int .i64 (.lit 0)))), (48, .w (.one (.str []))), (45, .tup [.one (.str []), .one (.int .i64 (.lit 0)), .one (.int .i64 (.lit 0))]), (47, .tup [.one (.str []), .one (.int .i64 (.lit 0)), .one (.int .i64 (.lit 0))]), (46, .w (.agg [.int .i64 (.var 2), .int .i64 (.var 3), .int .i64 (.var 4)])), (16, .w (.one (.iface 61 (.ptr { blk := 14 })))), (15, .w (.one (.int .i64 (.lit 0)))), (14, .w (.one (.int .i64 (.lit 0)))), (13, .w (.one (.str []))), (44, .w (.one (.iface 61 (.ptr { blk := 14 })))), (43, .w (.one (.int .i64 (.lit 0)))), (42, .w (.one (.int .i64 (.lit 0)))), (41, .w (.one (.str []))), (38, .tup [.one (.str []), .one (.int .i64 (.lit 0)), .one (.int .i64 (.lit 0)), .one (.iface 61 (.ptr { blk := 14 }))]), (40, .tup [.one (.str []), .one (.int .i64 (.lit 0)), .one (.int .i64 (.lit 0)), .one (.iface 61 (.ptr { blk := 14 }))]), (39, .w (.agg [.int .i64 (.var 2), .int .i64 (.var 3), .int .i64 (.var 4)])), (12, .w (.one (.nilif))), (11, .w (.one (.ptr { blk := 12 }))), (37, .w (.one (.nilif))), (36, .w (.agg [.int .i64 (.lit 0), .int .i64 (.lit 0), .int .i64 (.add (.lit 79) (.var 0))])), (33, .tup [.agg [.int .i64 (.lit 0), .int .i64 (.lit 0), .int .i64 (.add (.lit 79) (.var 0))], .one (.nilif)]), (35, .tup [.agg [.int .i64 (.lit 0), .int .i64 (.lit 0), .int .i64 (.add (.lit 79) (.var 0))], .one (.nilif)]), (34, .w (.one (.int .i64 (.var 0)))), (10, .w (.one (.iface 61 (.ptr { blk := 9 })))), (9, .w (.one (.ptr { blk := 10 }))), (32, .w (.one (.iface 61 (.ptr { blk := 9 })))), (31, .w (.agg [.int .i64 (.lit 0), .int .i64 (.lit 0), .int .i64 (.lit 0)])), (27, .tup [.agg [.int .i64 (.lit 0), .int .i64 (.lit 0), .int .i64 (.lit 0)], .one (.iface 61 (.ptr { blk := 9 }))]), (30, .tup [.agg [.int .i64 (.lit 0), .int .i64 (.lit 0), .int .i64 (.lit 0)], .one (.iface 61 (.ptr { blk := 9 }))]), (29, .w (.one (.int .i64 (.var 1)))), (28, .w (.one (.int .i64 (.var 0)))), (8, .w (.one (.iface 61 (.ptr { blk := 6 })))), (7, .w (.one (.ptr { blk := 7 }))), (26, .w (.one (.iface 61 (.ptr { blk := 6 })))), (25, .w (.agg [.int .i64 (.lit 0), .int .i64 (.lit 0), .int .i64 (.lit 0)])), (22, .tup [.agg [.int .i64 (.lit 0), .int .i64 (.lit 0), .int .i64 (.lit 0)], .one (.iface 61 (.ptr { blk := 6 }))]), (24, .tup [.agg [.int .i64 (.lit 0), .int .i64 (.lit 0), .int .i64 (.lit 0)], .one (.iface 61 (.ptr { blk := 6 }))]), (23, .w (.one (.int .i64 (.var 1)))), (21, .w (.one (.bool (.lit false)))), (20, .w (.one (.bool (.lit true)))), (6, .w (.one (.bool (.lit false)))), (5, .w (.one (.ptr { blk := 4 }))), (0, .w (.one (.int .i64 (.var 0)))), (1, .w (.one (.int .i64 (.var 1)))), (2, .w (.agg [.int .i64 (.var 2), .int .i64 (.var 3), .int .i64 (.var 4)]))], cur := .dr [1, 1, 1, 1, 1, 1, 1, 0] (.solo 18 <| .solo 19 <| .solo 20 <| .take 21 <| .solo 22 <| .solo 23 <| .solo 24 <| .solo 25 <| .take 26 <| .solo 27 <| .solo 28 <| .solo 29 <| .solo 30 <| .take 31 <| .solo 32 <| .solo 33 <| .solo 34 <| .solo 35 <| .take 36 <| .take 37 <| .solo 38 <| .solo 39 <| .solo 40 <| .solo 41 <| .solo 42 <| .solo 43 <| .solo 44 <| .solo 45 <| .take 46 <| .solo 47 <| .solo 48 <| .solo 49 <| .solo 50 <| .solo 51 <| .nil) [{ t := 0, gone := true }, { t := 0, gone := true }, { t := 0, gone := true }, { t := 0, gone := true }, { t := 0, gone := true }, { t := 0, gone := true }, { t := 0, gone := true }, { t := 25, cs := [.int .i64 (.lit 0), .int .i64 (.lit 0), .int .i64 (.lit 0)], own := true }, { t := 0, gone := true }, { t := 0, gone := true }, { t := 25, cs := [.int .i64 (.lit 0), .int .i64 (.lit 0), .int .i64 (.lit 0)], own := true }, { t := 0, gone := true }, { t := 25, cs := [.int .i64 (.lit 0), .int .i64 (.lit 0), .int .i64 (.add (.lit 79) (.var 0))], own := true }] false, todo := [.code [1, 1, 1, 1, 1, 1, 1, 1]] }, 18)] }
def ex_c19 : Cfg := { nv := 5, kn := [((.ilt (.add (.add (.lit 25) (.mul (.lit 9) (.var 0))) (.var 1)) (.lit 0)), true), ((.inr .i64 (.add (.add (.lit 25) (.mul (.lit 9) (.var 0))) (.var 1))), true), ((.inr .i64 (.add (.lit 25) (.mul (.lit 9) (.var 0)))), true), ((.inr .i64 (.mul (.lit 9) (.var 0))), true), ((.ile (.lit 0) (.var 1)), true), ((.ilt (.var 1) (.lit 9)), true), ((.and (.ile (.lit 0) (.var 1)) (.ilt (.var 1) (.lit 24))), false), ((.ieq (.var 3) (.lit 0)), false), ((.ieq (.var 2) (.lit 0)), true), ((.inr .i64 (.add (.lit 79) (.var 0))), true), ((.or (.ilt (.var 1) (.lit 0)) (.ile (.lit 9) (.var 1))), true), ((.ile (.lit 0) (.var 0)), true), ((.ilt (.var 0) (.lit 6)), true), ((.or (.ilt (.var 1) (.lit 0)) (.ile (.lit 24) (.var 1))), true)],  gl := [(1, 0), (0, 2)], hp := [{ t := 27, cs := [.iface 75 (.ptr { blk := 1 })], ro := true }, { t := 100, cs := [.hole], ro := true }, { t := 27, cs := [.iface 75 (.ptr { blk := 3 })], ro := true }, { t := 100, cs := [.hole], ro := true }, { t := 25, cs := [.int .i64 (.var 2), .int .i64 (.var 3), .int .i64 (.var 4)], own := true }, { t := 25, cs := [.int .i64 (.lit 0), .int .i64 (.lit 0), .int .i64 (.lit 0)], own := true }, { t := 63, cs := [.int .i64 (.lit 4), .iface 75 (.ptr { blk := 1 })], own := true }, { t := 25, cs := [.int .i64 (.lit 0), .int .i64 (.lit 0), .int .i64 (.lit 0)], own := true }, { t := 25, cs := [.int .i64 (.lit 0), .int .i64 (.lit 0), .int .i64 (.lit 0)], own := true }, { t := 63, cs := [.int .i64 (.lit 4), .iface 75 (.ptr { blk := 1 })], own := true }, { t := 25, cs := [.int .i64 (.lit 0), .int .i64 (.lit 0), .int .i64 (.lit 0)], own := true }, { t := 25, cs := [.int .i64 (.lit 0), .int .i64 (.lit 0), .int .i64 (.add (.lit 79) (.var 0))], own := true }, { t := 25, cs := [.int .i64 (.lit 0), .int .i64 (.lit 0), .int .i64 (.add (.lit 79) (.var 0))], own := true }, { t := 25, cs := [.int .i64 (.var 2), .int .i64 (.var 3), .int .i64 (.var 4)], own := true }, { t := 63, cs := [.int .i64 (.lit 4), .iface 75 (.ptr { blk := 3 })], own := true }, { t := 25, cs := [.int .i64 (.var 2), .int .i64 (.var 3), .int .i64 (.var 4)], own := true }, { t := 25, cs := [.int .i64 (.lit 0), .int .i64 (.lit 0), .int .i64 (.lit 0)], own := true }, { t := 25, cs := [.int .i64 (.lit 0), .int .i64 (.lit 0), .int .i64 (.lit 0)], own := true }],  top := { f := 16, fr := [(8, .w (.one (.bool (.ilt (.add (.add (.lit 25) (.mul (.lit 9) (.var 0))) (.var 1)) (.lit 0))))), (7, .w (.one (.int .i64 (.add (.add (.lit 25) (.mul (.lit 9) (.var 0))) (.var 1))))), (6, .w (.one (.bool (.lit false)))), (3, .w (.one (.ptr { blk := 17 }))), (0, .w (.agg [.int .i64 (.lit 0), .int .i64 (.lit 0), .int .i64 (.lit 0)])), (1, .w (.one (.iface 61 (.ptr { blk := 9 })))), (2, .w (.one (.int .i64 (.add (.add (.lit 25) (.mul (.lit 9) (.var 0))) (.var 1)))))], cur := .none, todo := [.code [1, 0, 1], .code [1, 1]] },  stk := [({ f := 4, fr := [(61, .w (.one (.int .i64 (.add (.add (.lit 25) (.mul (.lit 9) (.var 0))) (.var 1))))), (57, .w (.agg [.int .i64 (.lit 0), .int .i64 (.lit 0), .int .i64 (.lit 0)])), (60, .w (.one (.int .i64 (.var 1)))), (59, .w (.one (.int .i64 (.var 0)))), (58, .w (.one (.iface 61 (.ptr { blk := 9 })))), (56, .w (.one (.bool (.lit true)))), (55, .w (.one (.bool (.lit true)))), (54, .w (.one (.int .i64 (.lit (-1))))), (51, .w (.agg [.int .i64 (.lit 0), .int .i64 (.lit 0), .int .i64 (.lit 0)])), (53, .w (.one (.int .i64 (.var 1)))), (52, .w (.one (.iface 61 (.ptr { blk := 6 })))), (19, .w (.one (.int .i64 (.lit 0)))), (18, .w (.one (.int .i64 (.lit 0)))), (17, .w (.one (.str []))), (50, .w (.one (.int .i64 (.lit 0)))), (49, .w (.one (.int .i64 (.lit 0)))), (48, .w (.one (.str []))), (45, .tup [.one (.str []), .one (.int .i64 (.lit 0)), .one (.int .i64 (.lit 0))]), (47, .tup [.one (.str []), .one (.int .i64 (.lit 0)), .one (.int .i64 (.lit 0))]), (46, .w (.agg [.int .i64 (.var 2), .int .i64 (.var 3), .int .i64 (.var 4)])), (16, .w (.one (.iface 61 (.ptr { blk := 14 })))), (15, .w (.one (.int .i64 (.lit 0)))), (14, .w (.one (.int .i64 (.lit 0)))), (13, .w (.one (.str []))), (44, .w (.one (.iface 61 (.ptr { blk := 14 })))), (43, .w (.one (.int .i64 (.lit 0)))), (42, .w (.one (.int .i64 (.lit 0)))), (41, .w (.one (.str []))), (38, .tup [.one (.str []), .one (.int .i64 (.lit 0)), .one (.int .i64 (.lit 0)), .one (.iface 61 (.ptr { blk := 14 }))]), (40, .tup [.one (.str []), .one (.int .i64 (.lit 0)), .one (.int .i64 (.lit 0)), .one (.iface 61 (.ptr { blk := 14 }))]), (39, .w (.agg [.int .i64 (.var 2), .int .i64 (.var 3), .int .i64 (.var 4)])), (12, .w (.one (.nilif))), (11, .w (.one (.ptr { blk := 12 }))), (37, .w (.one (.nilif))), (36, .w (.agg [.int .i64 (.lit 0), .int .i64 (.lit 0), .int .i64 (.add (.lit 79) (.var 0))])), (33, .tup [.agg [.int .i64 (.lit 0), .int .i64 (.lit 0), .int .i64 (.add (.lit 79) (.var 0))], .one (.nilif)]), (35, .tup [.agg [.int .i64 (.lit 0), .int .i64 (.lit 0), .int .i64 (.add (.lit 79) (.var 0))], .one (.nilif)]), (34, .w (.one (.int .i64 (.var 0)))), (10, .w (.one (.iface 61 (.ptr { blk := 9 })))), (9, .w (.one (.ptr { blk := 10 }))), (32, .w (.one (.iface 61 (.ptr { blk := 9 })))), (31, .w (.agg [.int .i64 (.lit 0), .int .i64 (.lit 0), .int .i64 (.lit 0)])), (27, .tup [.agg [.int .i64 (.lit 0), .int .i64 (.lit 0), .int .i64 (.lit 0)], .one (.iface 61 (.ptr { blk := 9 }))]), (30, .tup [.agg [.int .i64 (.lit 0), .int .i64 (.lit 0), .int .i64 (.lit 0)], .one (.iface 61 (.ptr { blk := 9 }))]), (29, .w (.one (.int .i64 (.var 1)))), (28, .w (.one (.int .i64 (.var 0)))), (8, .w (.one (.iface 61 (.ptr { blk := 6 })))), (7, .w (.one (.ptr { blk := 7 }))), (26, .w (.one (.iface 61 (.ptr { blk := 6 })))), (25, .w (.agg [.int .i64 (.lit 0), .int .i64 (.lit 0), .int .i64 (.lit 0)])), (22, .tup [.agg [.int .i64 (.lit 0), .int .i64 (.lit 0), .int .i64 (.lit 0)], .one (.iface 61 (.ptr { blk := 6 }))]), (24, .tup [.agg [.int .i64 (.lit 0), .int .i64 (.lit 0), .int .i64 (.lit 0)], .one (.iface 61 (.ptr { blk := 6 }))]), (23, .w (.one (.int .i64 (.var 1)))), (21, .w (.one (.bool (.lit false)))), (20, .w (.one (.bool (.lit true)))), (6, .w (.one (.bool (.lit false)))), (5, .w (.one (.ptr { blk := 4 }))), (0, .w (.one (.int .i64 (.var 0)))), (1, .w (.one (.int .i64 (.var 1)))), (2, .w (.agg [.int .i64 (.var 2), .int .i64 (.var 3), .int .i64 (.var 4)]))], cur := .dr [1, 1, 1, 1, 1, 1, 1, 0] (.solo 11 <| .solo 12 <| .solo 13 <| .take 15 <| .take 16 <| .take 14 <| .solo 17 <| .solo 18 <| .solo 19 <| .solo 20 <| .take 21 <| .solo 22 <| .solo 23 <| .solo 24 <| .solo 25 <| .take 26 <| .solo 27 <| .solo 28 <| .solo 29 <| .solo 30 <| .take 31 <| .solo 32 <| .solo 33 <| .solo 34 <| .solo 35 <| .take 36 <| .take 37 <| .solo 38 <| .solo 39 <| .solo 40 <| .solo 41 <| .solo 42 <| .solo 43 <| .solo 44 <| .solo 45 <| .take 46 <| .solo 47 <| .solo 48 <| .solo 49 <| .solo 50 <| .solo 51 <| .nil) [{ t := 0, gone := true }, { t := 0, gone := true }, { t := 0, gone := true }, { t := 0, gone := true }, { t := 0, gone := true }, { t := 0, gone := true }, { t := 0, gone := true }, { t := 25, cs := [.int .i64 (.lit 0), .int .i64 (.lit 0), .int .i64 (.lit 0)], own := true }, { t := 0, gone := true }, { t := 0, gone := true }, { t := 25, cs := [.int .i64 (.lit 0), .int .i64 (.lit 0), .int .i64 (.lit 0)], own := true }] false, todo := [.code [1, 1, 1, 1, 1, 1, 1, 1]] }, 11)] }
def ex_c20 : Cfg := { nv := 5, kn := [((.ilt (.add (.add (.lit 25) (.mul (.lit 9) (.var 0))) (.var 1)) (.lit 0)), false), ((.inr .i64 (.add (.add (.lit 25) (.mul (.lit 9) (.var 0))) (.var 1))), true), ((.inr .i64 (.add (.lit 25) (.mul (.lit 9) (.var 0)))), true), ((.inr .i64 (.mul (.lit 9) (.var 0))), true), ((.ile (.lit 0) (.var 1)), true), ((.ilt (.var 1) (.lit 9)), true), ((.and (.ile (.lit 0) (.var 1)) (.ilt (.var 1) (.lit 24))), false), ((.ieq (.var 3) (.lit 0)), false), ((.ieq (.var 2) (.lit 0)), true), ((.inr .i64 (.add (.lit 79) (.var 0))), true), ((.or (.ilt (.var 1) (.lit 0)) (.ile (.lit 9) (.var 1))), true), ((.ile (.lit 0) (.var 0)), true), ((.ilt (.var 0) (.lit 6)), true), ((.or (.ilt (.var 1) (.lit 0)) (.ile (.lit 24) (.var 1))), true)],  gl := [(1, 0), (0, 2)], hp := [{ t := 27, cs := [.iface 75 (.ptr { blk := 1 })], ro := true }, { t := 100, cs := [.hole], ro := true }, { t := 27, cs := [.iface 75 (.ptr { blk := 3 })], ro := true }, { t := 100, cs := [.hole], ro := true }, { t := 25, cs := [.int .i64 (.var 2), .int .i64 (.var 3), .int .i64 (.var 4)], own := true }, { t := 25, cs := [.int .i64 (.lit 0), .int .i64 (.lit 0), .int .i64 (.lit 0)], own := true }, { t := 63, cs := [.int .i64 (.lit 4), .iface 75 (.ptr { blk := 1 })], own := true }, { t := 25, cs := [.int .i64 (.lit 0), .int .i64 (.lit 0), .int .i64 (.lit 0)], own := true }, { t := 25, cs := [.int .i64 (.lit 0), .int .i64 (.lit 0), .int .i64 (.lit 0)], own := true }, { t := 63, cs := [.int .i64 (.lit 4), .iface 75 (.ptr { blk := 1 })], own := true }, { t := 25, cs := [.int .i64 (.lit 0), .int .i64 (.lit 0), .int .i64 (.lit 0)], own := true }, { t := 25, cs := [.int .i64 (.lit 0), .int .i64 (.lit 0), .int .i64 (.add (.lit 79) (.var 0))], own := true }, { t := 25, cs := [.int .i64 (.lit 0), .int .i64 (.lit 0), .int .i64 (.add (.lit 79) (.var 0))], own := true }, { t := 25, cs := [.int .i64 (.var 2), .int .i64 (.var 3), .int .i64 (.var 4)], own := true }, { t := 63, cs := [.int .i64 (.lit 4), .iface 75 (.ptr { blk := 3 })], own := true }, { t := 25, cs := [.int .i64 (.var 2), .int .i64 (.var 3), .int .i64 (.var 4)], own := true }, { t := 25, cs := [.int .i64 (.lit 0), .int .i64 (.lit 0), .int .i64 (.lit 0)], own := true }, { t := 25, cs := [.int .i64 (.lit 0), .int .i64 (.lit 0), .int .i64 (.lit 0)], own := true }],  top := { f := 16, fr := [(8, .w (.one (.bool (.ilt (.add (.add (.lit 25) (.mul (.lit 9) (.var 0))) (.var 1)) (.lit 0))))), (7, .w (.one (.int .i64 (.add (.add (.lit 25) (.mul (.lit 9) (.var 0))) (.var 1))))), (6, .w (.one (.bool (.lit false)))), (3, .w (.one (.ptr { blk := 17 }))), (0, .w (.agg [.int .i64 (.lit 0), .int .i64 (.lit 0), .int .i64 (.lit 0)])), (1, .w (.one (.iface 61 (.ptr { blk := 9 })))), (2, .w (.one (.int .i64 (.add (.add (.lit 25) (.mul (.lit 9) (.var 0))) (.var 1)))))], cur := .none, todo := [.code [1, 0, 1], .code [1, 1]] },  stk := [({ f := 4, fr := [(61, .w (.one (.int .i64 (.add (.add (.lit 25) (.mul (.lit 9) (.var 0))) (.var 1))))), (57, .w (.agg [.int .i64 (.lit 0), .int .i64 (.lit 0), .int .i64 (.lit 0)])), (60, .w (.one (.int .i64 (.var 1)))), (59, .w (.one (.int .i64 (.var 0)))), (58, .w (.one (.iface 61 (.ptr { blk := 9 })))), (56, .w (.one (.bool (.lit true)))), (55, .w (.one (.bool (.lit true)))), (54, .w (.one (.int .i64 (.lit (-1))))), (51, .w (.agg [.int .i64 (.lit 0), .int .i64 (.lit 0), .int .i64 (.lit 0)])), (53, .w (.one (.int .i64 (.var 1)))), (52, .w (.one (.iface 61 (.ptr { blk := 6 })))), (19, .w (.one (.int .i64 (.lit 0)))), (18, .w (.one (.int .i64 (.lit 0)))), (17, .w (.one (.str []))), (50, .w (.one (.int .i64 (.lit 0)))), (49, .w (.one (.int .i64 (.lit 0)))), (48, .w (.one (.str []))), (45, .tup [.one (.str []), .one (.int .i64 (.lit 0)), .one (.int .i64 (.lit 0))]), (47, .tup [.one (.str []), .one (.int .i64 (.lit 0)), .one (.int .i64 (.lit 0))]), (46, .w (.agg [.int .i64 (.var 2), .int .i64 (.var 3), .int .i64 (.var 4)])), (16, .w (.one (.iface 61 (.ptr { blk := 14 })))), (15, .w (.one (.int .i64 (.lit 0)))), (14, .w (.one (.int .i64 (.lit 0)))), (13, .w (.one (.str []))), (44, .w (.one (.iface 61 (.ptr { blk := 14 })))), (43, .w (.one (.int .i64 (.lit 0)))), (42, .w (.one (.int .i64 (.lit 0)))), (41, .w (.one (.str []))), (38, .tup [.one (.str []), .one (.int .i64 (.lit 0)), .one (.int .i64 (.lit 0)), .one (.iface 61 (.ptr { blk := 14 }))]), (40, .tup [.one (.str []), .one (.int .i64 (.lit 0)), .one (.int .i64 (.lit 0)), .one (.iface 61 (.ptr { blk := 14 }))]), (39, .w (.agg [.int .i64 (.var 2), .int .i64 (.var 3), .int .i64 (.var 4)])), (12, .w (.one (.nilif))), (11, .w (.one (.ptr { blk := 12 }))), (37, .w (.one (.nilif))), (36, .w (.agg [.int .i64 (.lit 0), .int .i64 (.lit 0), .int .i64 (.add (.lit 79) (.var 0))])), (33, .tup [.agg [.int .i64 (.lit 0), .int .i64 (.lit 0), .int .i64 (.add (.lit 79) (.var 0))], .one (.nilif)]), (35, .tup [.agg [.int .i64 (.lit 0), .int .i64 (.lit 0), .int .i64 (.add (.lit 79) (.var 0))], .one (.nilif)]), (34, .w (.one (.int .i64 (.var 0)))), (10, .w (.one (.iface 61 (.ptr { blk := 9 })))), (9, .w (.one (.ptr { blk := 10 }))), (32, .w (.one (.iface 61 (.ptr { blk := 9 })))), (31, .w (.agg [.int .i64 (.lit 0), .int .i64 (.lit 0), .int .i64 (.lit 0)])), (27, .tup [.agg [.int .i64 (.lit 0), .int .i64 (.lit 0), .int .i64 (.lit 0)], .one (.iface 61 (.ptr { blk := 9 }))]), (30, .tup [.agg [.int .i64 (.lit 0), .int .i64 (.lit 0), .int .i64 (.lit 0)], .one (.iface 61 (.ptr { blk := 9 }))]), (29, .w (.one (.int .i64 (.var 1)))), (28, .w (.one (.int .i64 (.var 0)))), (8, .w (.one (.iface 61 (.ptr { blk := 6 })))), (7, .w (.one (.ptr { blk := 7 }))), (26, .w (.one (.iface 61 (.ptr { blk := 6 })))), (25, .w (.agg [.int .i64 (.lit 0), .int .i64 (.lit 0), .int .i64 (.lit 0)])), (22, .tup [.agg [.int .i64 (.lit 0), .int .i64 (.lit 0), .int .i64 (.lit 0)], .one (.iface 61 (.ptr { blk := 6 }))]), (24, .tup [.agg [.int .i64 (.lit 0), .int .i64 (.lit 0), .int .i64 (.lit 0)], .one (.iface 61 (.ptr { blk := 6 }))]), (23, .w (.one (.int .i64 (.var 1)))), (21, .w (.one (.bool (.lit false)))), (20, .w (.one (.bool (.lit true)))), (6, .w (.one (.bool (.lit false)))), (5, .w (.one (.ptr { blk := 4 }))), (0, .w (.one (.int .i64 (.var 0)))), (1, .w (.one (.int .i64 (.var 1)))), (2, .w (.agg [.int .i64 (.var 2), .int .i64 (.var 3), .int .i64 (.var 4)]))], cur := .dr [1, 1, 1, 1, 1, 1, 1, 0] (.solo 11 <| .solo 12 <| .solo 13 <| .take 15 <| .take 16 <| .take 14 <| .solo 17 <| .solo 18 <| .solo 19 <| .solo 20 <| .take 21 <| .solo 22 <| .solo 23 <| .solo 24 <| .solo 25 <| .take 26 <| .solo 27 <| .solo 28 <| .solo 29 <| .solo 30 <| .take 31 <| .solo 32 <| .solo 33 <| .solo 34 <| .solo 35 <| .take 36 <| .take 37 <| .solo 38 <| .solo 39 <| .solo 40 <| .solo 41 <| .solo 42 <| .solo 43 <| .solo 44 <| .solo 45 <| .take 46 <| .solo 47 <| .solo 48 <| .solo 49 <| .solo 50 <| .solo 51 <| .nil) [{ t := 0, gone := true }, { t := 0, gone := true }, { t := 0, gone := true }, { t := 0, gone := true }, { t := 0, gone := true }, { t := 0, gone := true }, { t := 0, gone := true }, { t := 25, cs := [.int .i64 (.lit 0), .int .i64 (.lit 0), .int .i64 (.lit 0)], own := true }, { t := 0, gone := true }, { t := 0, gone := true }, { t := 25, cs := [.int .i64 (.lit 0), .int .i64 (.lit 0), .int .i64 (.lit 0)], own := true }] false, todo := [.code [1, 1, 1, 1, 1, 1, 1, 1]] }, 11)] }
def ex_c21 : Cfg := { nv := 5, kn := [((.ilt (.var 1) (.lit 9)), false), ((.ilt (.var 1) (.lit 0)), true), ((.ile (.lit 0) (.var 1)), true), ((.ilt (.var 1) (.lit 24)), true), ((.ieq (.var 3) (.lit 0)), false), ((.ieq (.var 2) (.lit 0)), true), ((.inr .i64 (.add (.lit 79) (.var 0))), true), ((.or (.ilt (.var 1) (.lit 0)) (.ile (.lit 9) (.var 1))), true), ((.ile (.lit 0) (.var 0)), true), ((.ilt (.var 0) (.lit 6)), true), ((.or (.ilt (.var 1) (.lit 0)) (.ile (.lit 24) (.var 1))), true)],  gl := [(1, 0), (0, 2)], hp := [{ t := 27, cs := [.iface 75 (.ptr { blk := 1 })], ro := true }, { t := 100, cs := [.hole], ro := true }, { t := 27, cs := [.iface 75 (.ptr { blk := 3 })], ro := true }, { t := 100, cs := [.hole], ro := true }, { t := 25, cs := [.int .i64 (.var 2), .int .i64 (.var 3), .int .i64 (.var 4)], own := true }, { t := 25, cs := [.int .i64 (.lit 0), .int .i64 (.lit 0), .int .i64 (.lit 0)], own := true }, { t := 63, cs := [.int .i64 (.lit 4), .iface 75 (.ptr { blk := 1 })], own := true }, { t := 25, cs := [.int .i64 (.lit 0), .int .i64 (.lit 0), .int .i64 (.lit 0)], own := true }, { t := 25, cs := [.int .i64 (.lit 0), .int .i64 (.lit 0), .int .i64 (.lit 0)], own := true }, { t := 63, cs := [.int .i64 (.lit 4), .iface 75 (.ptr { blk := 1 })], own := true }, { t := 25, cs := [.int .i64 (.lit 0), .int .i64 (.lit 0), .int .i64 (.lit 0)], own := true }, { t := 25, cs := [.int .i64 (.lit 0), .int .i64 (.lit 0), .int .i64 (.add (.lit 79) (.var 0))], own := true }, { t := 25, cs := [.int .i64 (.lit 0), .int .i64 (.lit 0), .int .i64 (.add (.lit 79) (.var 0))], own := true }, { t := 25, cs := [.int .i64 (.var 2), .int .i64 (.var 3), .int .i64 (.var 4)], own := true }, { t := 63, cs := [.int .i64 (.lit 4), .iface 75 (.ptr { blk := 3 })], own := true }, { t := 25, cs := [.int .i64 (.var 2), .int .i64 (.var 3), .int .i64 (.var 4)], own := true }, { t := 25, cs := [.int .i64 (.lit 0), .int .i64 (.lit 0), .int .i64 (.lit 0)], own := true }],  top := { f := 18, fr := [(12, .w (.one (.bool (.not (.ilt (.var 1) (.lit 9)))))), (11, .w (.one (.bool (.not (.ilt (.var 1) (.lit 9)))))), (10, .w (.one (.bool (.ilt (.var 1) (.lit 9))))), (9, .w (.one (.int .i64 (.var 1)))), (8, .w (.one (.bool (.not (.ilt (.var 0) (.lit 6)))))), (7, .w (.one (.bool (.not (.ilt (.var 0) (.lit 6)))))), (6, .w (.one (.bool (.ilt (.var 0) (.lit 6))))), (5, .w (.one (.int .i64 (.var 0)))), (4, .w (.one (.int .i64 (.lit 0)))), (0, .w (.one (.int .i64 (.var 0)))), (1, .w (.one (.int .i64 (.var 1))))], cur := .none, todo := [.code [1, 0, 1], .code [1, 1]] },  stk := [({ f := 4, fr := [(57, .w (.agg [.int .i64 (.lit 0), .int .i64 (.lit 0), .int .i64 (.lit 0)])), (60, .w (.one (.int .i64 (.var 1)))), (59, .w (.one (.int .i64 (.var 0)))), (58, .w (.one (.iface 61 (.ptr { blk := 9 })))), (56, .w (.one (.bool (.lit true)))), (55, .w (.one (.bool (.lit true)))), (54, .w (.one (.int .i64 (.var 1)))), (51, .w (.agg [.int .i64 (.lit 0), .int .i64 (.lit 0), .int .i64 (.lit 0)])), (53, .w (.one (.int .i64 (.var 1)))), (52, .w (.one (.iface 61 (.ptr { blk := 6 })))), (19, .w (.one (.int .i64 (.lit 0)))), (18, .w (.one (.int .i64 (.lit 0)))), (17, .w (.one (.str []))), (50, .w (.one (.int .i64 (.lit 0)))), (49, .w (.one (.int .i64 (.lit 0)))), (48, .w (.one (.str []))), (45, .tup [.one (.str []), .one (.int .i64 (.lit 0)), .one (.int .i64 (.lit 0))]), (47, .tup [.one (.str []), .one (.int .i64 (.lit 0)), .one (.int .i64 (.lit 0))]), (46, .w (.agg [.int .i64 (.var 2), .int .i64 (.var 3), .int .i64 (.var 4)])), (16, .w (.one (.iface 61 (.ptr { blk := 14 })))), (15, .w (.one (.int .i64 (.lit 0)))), (14, .w (.one (.int .i64 (.lit 0)))), (13, .w (.one (.str []))), (44, .w (.one (.iface 61 (.ptr { blk := 14 })))), (43, .w (.one (.int .i64 (.lit 0)))), (42, .w (.one (.int .i64 (.lit 0)))), (41, .w (.one (.str []))), (38, .tup [.one (.str []), .one (.int .i64 (.lit 0)), .one (.int .i64 (.lit 0)), .one (.iface 61 (.ptr { blk := 14 }))]), (40, .tup [.one (.str []), .one (.int .i64 (.lit 0)), .one (.int .i64 (.lit 0)), .one (.iface 61 (.ptr { blk := 14 }))]), (39, .w (.agg [.int .i64 (.var 2), .int .i64 (.var 3), .int .i64 (.var 4)])), (12, .w (.one (.nilif))), (11, .w (.one (.ptr { blk := 12 }))), (37, .w (.one (.nilif))), (36, .w (.agg [.int .i64 (.lit 0), .int .i64 (.lit 0), .int .i64 (.add (.lit 79) (.var 0))])), (33, .tup [.agg [.int .i64 (.lit 0), .int .i64 (.lit 0), .int .i64 (.add (.lit 79) (.var 0))], .one (.nilif)]), (35, .tup [.agg [.int .i64 (.lit 0), .int .i64 (.lit 0), .int .i64 (.add (.lit 79) (.var 0))], .one (.nilif)]), (34, .w (.one (.int .i64 (.var 0)))), (10, .w (.one (.iface 61 (.ptr { blk := 9 })))), (9, .w (.one (.ptr { blk := 10 }))), (32, .w (.one (.iface 61 (.ptr { blk := 9 })))), (31, .w (.agg [.int .i64 (.lit 0), .int .i64 (.lit 0), .int .i64 (.lit 0)])), (27, .tup [.agg [.int .i64 (.lit 0), .int .i64 (.lit 0), .int .i64 (.lit 0)], .one (.iface 61 (.ptr { blk := 9 }))]), (30, .tup [.agg [.int .i64 (.lit 0), .int .i64 (.lit 0), .int .i64 (.lit 0)], .one (.iface 61 (.ptr { blk := 9 }))]), (29, .w (.one (.int .i64 (.var 1)))), (28, .w (.one (.int .i64 (.var 0)))), (8, .w (.one (.iface 61 (.ptr { blk := 6 })))), (7, .w (.one (.ptr { blk := 7 }))), (26, .w (.one (.iface 61 (.ptr { blk := 6 })))), (25, .w (.agg [.int .i64 (.lit 0), .int .i64 (.lit 0), .int .i64 (.lit 0)])), (22, .tup [.agg [.int .i64 (.lit 0), .int .i64 (.lit 0), .int .i64 (.lit 0)], .one (.iface 61 (.ptr { blk := 6 }))]), (24, .tup [.agg [.int .i64 (.lit 0), .int .i64 (.lit 0), .int .i64 (.lit 0)], .one (.iface 61 (.ptr { blk := 6 }))]), (23, .w (.one (.int .i64 (.var 1)))), (21, .w (.one (.bool (.lit false)))), (20, .w (.one (.bool (.lit true)))), (6, .w (.one (.bool (.lit false)))), (5, .w (.one (.ptr { blk := 4 }))), (0, .w (.one (.int .i64 (.var 0)))), (1, .w (.one (.int .i64 (.var 1)))), (2, .w (.agg [.int .i64 (.var 2), .int .i64 (.var 3), .int .i64 (.var 4)]))], cur := .dr [1, 1, 1, 1, 1, 1, 1, 0] (.solo 10 <| .solo 11 <| .solo 12 <| .solo 13 <| .take 15 <| .take 16 <| .take 14 <| .solo 17 <| .solo 18 <| .solo 19 <| .solo 20 <| .take 21 <| .solo 22 <| .solo 23 <| .solo 24 <| .solo 25 <| .take 26 <| .solo 27 <| .solo 28 <| .solo 29 <| .solo 30 <| .take 31 <| .solo 32 <| .solo 33 <| .solo 34 <| .solo 35 <| .take 36 <| .take 37 <| .solo 38 <| .solo 39 <| .solo 40 <| .solo 41 <| .solo 42 <| .solo 43 <| .solo 44 <| .solo 45 <| .take 46 <| .solo 47 <| .solo 48 <| .solo 49 <| .solo 50 <| .solo 51 <| .nil) [{ t := 0, gone := true }, { t := 0, gone := true }, { t := 0, gone := true }, { t := 0, gone := true }, { t := 0, gone := true }, { t := 0, gone := true }, { t := 0, gone := true }, { t := 25, cs := [.int .i64 (.lit 0), .int .i64 (.lit 0), .int .i64 (.lit 0)], own := true }, { t := 0, gone := true }, { t := 0, gone := true }, { t := 25, cs := [.int .i64 (.lit 0), .int .i64 (.lit 0), .int .i64 (.lit 0)], own := true }] false, todo := [.code [1, 1, 1, 1, 1, 1, 1, 1]] }, 10)] }
def ex_c22 : Cfg := { nv := 5, kn := [((.ilt (.var 1) (.lit 9)), true), ((.ilt (.var 1) (.lit 0)), true), ((.ile (.lit 0) (.var 1)), true), ((.ilt (.var 1) (.lit 24)), true), ((.ieq (.var 3) (.lit 0)), false), ((.ieq (.var 2) (.lit 0)), true), ((.inr .i64 (.add (.lit 79) (.var 0))), true), ((.or (.ilt (.var 1) (.lit 0)) (.ile (.lit 9) (.var 1))), true), ((.ile (.lit 0) (.var 0)), true), ((.ilt (.var 0) (.lit 6)), true), ((.or (.ilt (.var 1) (.lit 0)) (.ile (.lit 24) (.var 1))), true)],  gl := [(1, 0), (0, 2)], hp := [{ t := 27, cs := [.iface 75 (.ptr { blk := 1 })], ro := true }, { t := 100, cs := [.hole], ro := true }, { t := 27, cs := [.iface 75 (.ptr { blk := 3 })], ro := true }, { t := 100, cs := [.hole], ro := true }, { t := 25, cs := [.int .i64 (.var 2), .int .i64 (.var 3), .int .i64 (.var 4)], own := true }, { t := 25, cs := [.int .i64 (.lit 0), .int .i64 (.lit 0), .int .i64 (.lit 0)], own := true }, { t := 63, cs := [.int .i64 (.lit 4), .iface 75 (.ptr { blk := 1 })], own := true }, { t := 25, cs := [.int .i64 (.lit 0), .int .i64 (.lit 0), .int .i64 (.lit 0)], own := true }, { t := 25, cs := [.int .i64 (.lit 0), .int .i64 (.lit 0), .int .i64 (.lit 0)], own := true }, { t := 63, cs := [.int .i64 (.lit 4), .iface 75 (.ptr { blk := 1 })], own := true }, { t := 25, cs := [.int .i64 (.lit 0), .int .i64 (.lit 0), .int .i64 (.lit 0)], own := true }, { t := 25, cs := [.int .i64 (.lit 0), .int .i64 (.lit 0), .int .i64 (.add (.lit 79) (.var 0))], own := true }, { t := 25, cs := [.int .i64 (.lit 0), .int .i64 (.lit 0), .int .i64 (.add (.lit 79) (.var 0))], own := true }, { t := 25, cs := [.int .i64 (.var 2), .int .i64 (.var 3), .int .i64 (.var 4)], own := true }, { t := 63, cs := [.int .i64 (.lit 4), .iface 75 (.ptr { blk := 3 })], own := true }, { t := 25, cs := [.int .i64 (.var 2), .int .i64 (.var 3), .int .i64 (.var 4)], own := true }, { t := 25, cs := [.int .i64 (.lit 0), .int .i64 (.lit 0), .int .i64 (.lit 0)], own := true }],  top := { f := 18, fr := [(12, .w (.one (.bool (.not (.ilt (.var 1) (.lit 9)))))), (11, .w (.one (.bool (.not (.ilt (.var 1) (.lit 9)))))), (10, .w (.one (.bool (.ilt (.var 1) (.lit 9))))), (9, .w (.one (.int .i64 (.var 1)))), (8, .w (.one (.bool (.not (.ilt (.var 0) (.lit 6)))))), (7, .w (.one (.bool (.not (.ilt (.var 0) (.lit 6)))))), (6, .w (.one (.bool (.ilt (.var 0) (.lit 6))))), (5, .w (.one (.int .i64 (.var 0)))), (4, .w (.one (.int .i64 (.lit 0)))), (0, .w (.one (.int .i64 (.var 0)))), (1, .w (.one (.int .i64 (.var 1))))], cur := .none, todo := [.code [1, 0, 1], .code [1, 1]] },  stk := [({ f := 4, fr := [(57, .w (.agg [.int .i64 (.lit 0), .int .i64 (.lit 0), .int .i64 (.lit 0)])), (60, .w (.one (.int .i64 (.var 1)))), (59, .w (.one (.int .i64 (.var 0)))), (58, .w (.one (.iface 61 (.ptr { blk := 9 })))), (56, .w (.one (.bool (.lit true)))), (55, .w (.one (.bool (.lit true)))), (54, .w (.one (.int .i64 (.var 1)))), (51, .w (.agg [.int .i64 (.lit 0), .int .i64 (.lit 0), .int .i64 (.lit 0)])), (53, .w (.one (.int .i64 (.var 1)))), (52, .w (.one (.iface 61 (.ptr { blk := 6 })))), (19, .w (.one (.int .i64 (.lit 0)))), (18, .w (.one (.int .i64 (.lit 0)))), (17, .w (.one (.str []))), (50, .w (.one (.int .i64 (.lit 0)))), (49, .w (.one (.int .i64 (.lit 0)))), (48, .w (.one (.str []))), (45, .tup [.one (.str []), .one (.int .i64 (.lit 0)), .one (.int .i64 (.lit 0))]), (47, .tup [.one (.str []), .one (.int .i64 (.lit 0)), .one (.int .i64 (.lit 0))]), (46, .w (.agg [.int .i64 (.var 2), .int .i64 (.var 3), .int .i64 (.var 4)])), (16, .w (.one (.iface 61 (.ptr { blk := 14 })))), (15, .w (.one (.int .i64 (.lit 0)))), (14, .w (.one (.int .i64 (.lit 0)))), (13, .w (.one (.str []))), (44, .w (.one (.iface 61 (.ptr { blk := 14 })))), (43, .w (.one (.int .i64 (.lit 0)))), (42, .w (.one (.int .i64 (.lit 0)))), (41, .w (.one (.str []))), (38, .tup [.one (.str []), .one (.int .i64 (.lit 0)), .one (.int .i64 (.lit 0)), .one (.iface 61 (.ptr { blk := 14 }))]), (40, .tup [.one (.str []), .one (.int .i64 (.lit 0)), .one (.int .i64 (.lit 0)), .one (.iface 61 (.ptr { blk := 14 }))]), (39, .w (.agg [.int .i64 (.var 2), .int .i64 (.var 3), .int .i64 (.var 4)])), (12, .w (.one (.nilif))), (11, .w (.one (.ptr { blk := 12 }))), (37, .w (.one (.nilif))), (36, .w (.agg [.int .i64 (.lit 0), .int .i64 (.lit 0), .int .i64 (.add (.lit 79) (.var 0))])), (33, .tup [.agg [.int .i64 (.lit 0), .int .i64 (.lit 0), .int .i64 (.add (.lit 79) (.var 0))], .one (.nilif)]), (35, .tup [.agg [.int .i64 (.lit 0), .int .i64 (.lit 0), .int .i64 (.add (.lit 79) (.var 0))], .one (.nilif)]), (34, .w (.one (.int .i64 (.var 0)))), (10, .w (.one (.iface 61 (.ptr { blk := 9 })))), (9, .w (.one (.ptr { blk := 10 }))), (32, .w (.one (.iface 61 (.ptr { blk := 9 })))), (31, .w (.agg [.int .i64 (.lit 0), .int .i64 (.lit 0), .int .i64 (.lit 0)])), (27, .tup [.agg [.int .i64 (.lit 0), .int .i64 (.lit 0), .int .i64 (.lit 0)], .one (.iface 61 (.ptr { blk := 9 }))]), (30, .tup [.agg [.int .i64 (.lit 0), .int .i64 (.lit 0), .int .i64 (.lit 0)], .one (.iface 61 (.ptr { blk := 9 }))]), (29, .w (.one (.int .i64 (.var 1)))), (28, .w (.one (.int .i64 (.var 0)))), (8, .w (.one (.iface 61 (.ptr { blk := 6 })))), (7, .w (.one (.ptr { blk := 7 }))), (26, .w (.one (.iface 61 (.ptr { blk := 6 })))), (25, .w (.agg [.int .i64 (.lit 0), .int .i64 (.lit 0), .int .i64 (.lit 0)])), (22, .tup [.agg [.int .i64 (.lit 0), .int .i64 (.lit 0), .int .i64 (.lit 0)], .one (.iface 61 (.ptr { blk := 6 }))]), (24, .tup [.agg [.int .i64 (.lit 0), .int .i64 (.lit 0), .int .i64 (.lit 0)], .one (.iface 61 (.ptr { blk := 6 }))]), (23, .w (.one (.int .i64 (.var 1)))), (21, .w (.one (.bool (.lit false)))), (20, .w (.one (.bool (.lit true)))), (6, .w (.one (.bool (.lit false)))), (5, .w (.one (.ptr { blk := 4 }))), (0, .w (.one (.int .i64 (.var 0)))), (1, .w (.one (.int .i64 (.var 1)))), (2, .w (.agg [.int .i64 (.var 2), .int .i64 (.var 3), .int .i64 (.var 4)]))], cur := .dr [1, 1, 1, 1, 1, 1, 1, 0] (.solo 10 <| .solo 11 <| .solo 12 <| .solo 13 <| .take 15 <| .take 16 <| .take 14 <| .solo 17 <| .solo 18 <| .solo 19 <| .solo 20 <| .take 21 <| .solo 22 <| .solo 23 <| .solo 24 <| .solo 25 <| .take 26 <| .solo 27 <| .solo 28 <| .solo 29 <| .solo 30 <| .take 31 <| .solo 32 <| .solo 33 <| .solo 34 <| .solo 35 <| .take 36 <| .take 37 <| .solo 38 <| .solo 39 <| .solo 40 <| .solo 41 <| .solo 42 <| .solo 43 <| .solo 44 <| .solo 45 <| .take 46 <| .solo 47 <| .solo 48 <| .solo 49 <| .solo 50 <| .solo 51 <| .nil) [{ t := 0, gone := true }, { t := 0, gone := true }, { t := 0, gone := true }, { t := 0, gone := true }, { t := 0, gone := true }, { t := 0, gone := true }, { t := 0, gone := true }, { t := 25, cs := [.int .i64 (.lit 0), .int .i64 (.lit 0), .int .i64 (.lit 0)], own := true }, { t := 0, gone := true }, { t := 0, gone := true }, { t := 25, cs := [.int .i64 (.lit 0), .int .i64 (.lit 0), .int .i64 (.lit 0)], own := true }] false, todo := [.code [1, 1, 1, 1, 1, 1, 1, 1]] }, 10)] }
def ex_c23 : Cfg := { nv := 5, kn := [((.and (.ile (.lit 0) (.var 1)) (.ilt (.var 1) (.lit 9))), false), ((.and (.ile (.lit 0) (.var 1)) (.ilt (.var 1) (.lit 24))), false), ((.or (.ilt (.var 4) (.lit 0)) (.ile (.lit 85) (.var 4))), true), ((.ieq (.var 3) (.lit 0)), true), ((.ieq (.var 2) (.lit 0)), true), ((.inr .i64 (.add (.lit 79) (.var 0))), true), ((.or (.ilt (.var 1) (.lit 0)) (.ile (.lit 9) (.var 1))), true), ((.ile (.lit 0) (.var 0)), true), ((.ilt (.var 0) (.lit 6)), true), ((.or (.ilt (.var 1) (.lit 0)) (.ile (.lit 24) (.var 1))), true)],  gl := [(1, 0), (0, 2)], hp := [{ t := 27, cs := [.iface 75 (.ptr { blk := 1 })], ro := true }, { t := 100, cs := [.hole], ro := true }, { t := 27, cs := [.iface 75 (.ptr { blk := 3 })], ro := true }, { t := 100, cs := [.hole], ro := true }, { t := 25, cs := [.int .i64 (.var 2), .int .i64 (.var 3), .int .i64 (.var 4)], own := true }, { t := 25, cs := [.int .i64 (.lit 0), .int .i64 (.lit 0), .int .i64 (.lit 0)], own := true }, { t := 63, cs := [.int .i64 (.lit 4), .iface 75 (.ptr { blk := 1 })], own := true }, { t := 25, cs := [.int .i64 (.lit 0), .int .i64 (.lit 0), .int .i64 (.lit 0)], own := true }, { t := 25, cs := [.int .i64 (.lit 0), .int .i64 (.lit 0), .int .i64 (.lit 0)], own := true }, { t := 63, cs := [.int .i64 (.lit 4), .iface 75 (.ptr { blk := 1 })], own := true }, { t := 25, cs := [.int .i64 (.lit 0), .int .i64 (.lit 0), .int .i64 (.lit 0)], own := true }, { t := 25, cs := [.int .i64 (.lit 0), .int .i64 (.lit 0), .int .i64 (.add (.lit 79) (.var 0))], own := true }, { t := 25, cs := [.int .i64 (.lit 0), .int .i64 (.lit 0), .int .i64 (.add (.lit 79) (.var 0))], own := true }, { t := 25, cs := [.int .i64 (.var 2), .int .i64 (.var 3), .int .i64 (.var 4)], own := true }, { t := 63, cs := [.int .i64 (.lit 4), .iface 75 (.ptr { blk := 3 })], own := true }, { t := 25, cs := [.int .i64 (.var 2), .int .i64 (.var 3), .int .i64 (.var 4)], own := true }, { t := 25, cs := [.int .i64 (.lit 0), .int .i64 (.lit 0), .int .i64 (.lit 0)], own := true }],  top := { f := 18, fr := [(12, .w (.one (.bool (.not (.and (.ile (.lit 0) (.var 1)) (.ilt (.var 1) (.lit 9))))))), (11, .w (.one (.bool (.not (.and (.ile (.lit 0) (.var 1)) (.ilt (.var 1) (.lit 9))))))), (10, .w (.one (.bool (.and (.ile (.lit 0) (.var 1)) (.ilt (.var 1) (.lit 9)))))), (9, .w (.one (.int .i64 (.var 1)))), (8, .w (.one (.bool (.not (.ilt (.var 0) (.lit 6)))))), (7, .w (.one (.bool (.not (.ilt (.var 0) (.lit 6)))))), (6, .w (.one (.bool (.ilt (.var 0) (.lit 6))))), (5, .w (.one (.int .i64 (.var 0)))), (4, .w (.one (.int .i64 (.lit 0)))), (0, .w (.one (.int .i64 (.var 0)))), (1, .w (.one (.int .i64 (.var 1))))], cur := .none, todo := [.code [1, 0, 1], .code [1, 1]] },  stk := [({ f := 4, fr := [(57, .w (.agg [.int .i64 (.lit 0), .int .i64 (.lit 0), .int .i64 (.lit 0)])), (60, .w (.one (.int .i64 (.var 1)))), (59, .w (.one (.int .i64 (.var 0)))), (58, .w (.one (.iface 61 (.ptr { blk := 9 })))), (56, .w (.one (.bool (.lit true)))), (55, .w (.one (.bool (.lit true)))), (54, .w (.one (.int .i64 (.lit (-1))))), (51, .w (.agg [.int .i64 (.lit 0), .int .i64 (.lit 0), .int .i64 (.lit 0)])), (53, .w (.one (.int .i64 (.var 1)))), (52, .w (.one (.iface 61 (.ptr { blk := 6 })))), (19, .w (.one (.int .i64 (.lit 0)))), (18, .w (.one (.int .i64 (.lit 0)))), (17, .w (.one (.str []))), (50, .w (.one (.int .i64 (.lit 0)))), (49, .w (.one (.int .i64 (.lit 0)))), (48, .w (.one (.str []))), (45, .tup [.one (.str []), .one (.int .i64 (.lit 0)), .one (.int .i64 (.lit 0))]), (47, .tup [.one (.str []), .one (.int .i64 (.lit 0)), .one (.int .i64 (.lit 0))]), (46, .w (.agg [.int .i64 (.var 2), .int .i64 (.var 3), .int .i64 (.var 4)])), (16, .w (.one (.iface 61 (.ptr { blk := 14 })))), (15, .w (.one (.int .i64 (.lit 0)))), (14, .w (.one (.int .i64 (.lit 0)))), (13, .w (.one (.str []))), (44, .w (.one (.iface 61 (.ptr { blk := 14 })))), (43, .w (.one (.int .i64 (.lit 0)))), (42, .w (.one (.int .i64 (.lit 0)))), (41, .w (.one (.str []))), (38, .tup [.one (.str []), .one (.int .i64 (.lit 0)), .one (.int .i64 (.lit 0)), .one (.iface 61 (.ptr { blk := 14 }))]), (40, .tup [.one (.str []), .one (.int .i64 (.lit 0)), .one (.int .i64 (.lit 0)), .one (.iface 61 (.ptr { blk := 14 }))]), (39, .w (.agg [.int .i64 (.var 2), .int .i64 (.var 3), .int .i64 (.var 4)])), (12, .w (.one (.nilif))), (11, .w (.one (.ptr { blk := 12 }))), (37, .w (.one (.nilif))), (36, .w (.agg [.int .i64 (.lit 0), .int .i64 (.lit 0), .int .i64 (.add (.lit 79) (.var 0))])), (33, .tup [.agg [.int .i64 (.lit 0), .int .i64 (.lit 0), .int .i64 (.add (.lit 79) (.var 0))], .one (.nilif)]), (35, .tup [.agg [.int .i64 (.lit 0), .int .i64 (.lit 0), .int .i64 (.add (.lit 79) (.var 0))], .one (.nilif)]), (34, .w (.one (.int .i64 (.var 0)))), (10, .w (.one (.iface 61 (.ptr { blk := 9 })))), (9, .w (.one (.ptr { blk := 10 }))), (32, .w (.one (.iface 61 (.ptr { blk := 9 })))), (31, .w (.agg [.int .i64 (.lit 0), .int .i64 (.lit 0), .int .i64 (.lit 0)])), (27, .tup [.agg [.int .i64 (.lit 0), .int .i64 (.lit 0), .int .i64 (.lit 0)], .one (.iface 61 (.ptr { blk := 9 }))]), (30, .tup [.agg [.int .i64 (.lit 0), .int .i64 (.lit 0), .int .i64 (.lit 0)], .one (.iface 61 (.ptr { blk := 9 }))]), (29, .w (.one (.int .i64 (.var 1)))), (28, .w (.one (.int .i64 (.var 0)))), (8, .w (.one (.iface 61 (.ptr { blk := 6 })))), (7, .w (.one (.ptr { blk := 7 }))), (26, .w (.one (.iface 61 (.ptr { blk := 6 })))), (25, .w (.agg [.int .i64 (.lit 0), .int .i64 (.lit 0), .int .i64 (.lit 0)])), (22, .tup [.agg [.int .i64 (.lit 0), .int .i64 (.lit 0), .int .i64 (.lit 0)], .one (.iface 61 (.ptr { blk := 6 }))]), (24, .tup [.agg [.int .i64 (.lit 0), .int .i64 (.lit 0), .int .i64 (.lit 0)], .one (.iface 61 (.ptr { blk := 6 }))]), (23, .w (.one (.int .i64 (.var 1)))), (21, .w (.one (.bool (.lit false)))), (20, .w (.one (.bool (.lit true)))), (6, .w (.one (.bool (.lit false)))), (5, .w (.one (.ptr { blk := 4 }))), (0, .w (.one (.int .i64 (.var 0)))), (1, .w (.one (.int .i64 (.var 1)))), (2, .w (.agg [.int .i64 (.var 2), .int .i64 (.var 3), .int .i64 (.var 4)]))], cur := .dr [1, 1, 1, 1, 1, 1, 1, 0] (.solo 10 <| .solo 11 <| .solo 12 <| .solo 13 <| .take 15 <| .take 16 <| .take 14 <| .solo 17 <| .solo 18 <| .solo 19 <| .solo 20 <| .take 21 <| .solo 22 <| .solo 23 <| .solo 24 <| .solo 25 <| .take 26 <| .solo 27 <| .solo 28 <| .solo 29 <| .solo 30 <| .take 31 <| .solo 32 <| .solo 33 <| .solo 34 <| .solo 35 <| .take 36 <| .take 37 <| .solo 38 <| .solo 39 <| .solo 40 <| .solo 41 <| .solo 42 <| .solo 43 <| .solo 44 <| .solo 45 <| .take 46 <| .solo 47 <| .solo 48 <| .solo 49 <| .solo 50 <| .solo 51 <| .nil) [{ t := 0, gone := true }, { t := 0, gone := true }, { t := 0, gone := true }, { t := 0, gone := true }, { t := 0, gone := true }, { t := 0, gone := true }, { t := 0, gone := true }, { t := 25, cs := [.int .i64 (.lit 0), .int .i64 (.lit 0), .int .i64 (.lit 0)], own := true }, { t := 0, gone := true }, { t := 0, gone := true }, { t := 25, cs := [.int .i64 (.lit 0), .int .i64 (.lit 0), .int .i64 (.lit 0)], own := true }] false, todo := [.code [1, 1, 1, 1, 1, 1, 1, 1]] }, 10)] }
def ex_c24 : Cfg := { nv := 5, kn := [((.ile (.lit 0) (.var 1)), true), ((.ilt (.var 1) (.lit 9)), true), ((.and (.ile (.lit 0) (.var 1)) (.ilt (.var 1) (.lit 24))), false), ((.or (.ilt (.var 4) (.lit 0)) (.ile (.lit 85) (.var 4))), true), ((.ieq (.var 3) (.lit 0)), true), ((.ieq (.var 2) (.lit 0)), true), ((.inr .i64 (.add (.lit 79) (.var 0))), true), ((.or (.ilt (.var 1) (.lit 0)) (.ile (.lit 9) (.var 1))), true), ((.ile (.lit 0) (.var 0)), true), ((.ilt (.var 0) (.lit 6)), true), ((.or (.ilt (.var 1) (.lit 0)) (.ile (.lit 24) (.var 1))), true)],  gl := [(1, 0), (0, 2)], hp := [{ t := 27, cs := [.iface 75 (.ptr { blk := 1 })], ro := true }, { t := 100, cs := [.hole], ro := true }, { t := 27, cs := [.iface 75 (.ptr { blk := 3 })], ro := true }, { t := 100, cs := [.hole], ro := true }, { t := 25, cs := [.int .i64 (.var 2), .int .i64 (.var 3), .int .i64 (.var 4)], own := true }, { t := 25, cs := [.int .i64 (.lit 0), .int .i64 (.lit 0), .int .i64 (.lit 0)], own := true }, { t := 63, cs := [.int .i64 (.lit 4), .iface 75 (.ptr { blk := 1 })], own := true }, { t := 25, cs := [.int .i64 (.lit 0), .int .i64 (.lit 0), .int .i64 (.lit 0)], own := true }, { t := 25, cs := [.int .i64 (.lit 0), .int .i64 (.lit 0), .int .i64 (.lit 0)], own := true }, { t := 63, cs := [.int .i64 (.lit 4), .iface 75 (.ptr { blk := 1 })], own := true }, { t := 25, cs := [.int .i64 (.lit 0), .int .i64 (.lit 0), .int .i64 (.lit 0)], own := true }, { t := 25, cs := [.int .i64 (.lit 0), .int .i64 (.lit 0), .int .i64 (.add (.lit 79) (.var 0))], own := true }, { t := 25, cs := [.int .i64 (.lit 0), .int .i64 (.lit 0), .int .i64 (.add (.lit 79) (.var 0))], own := true }, { t := 25, cs := [.int .i64 (.var 2), .int .i64 (.var 3), .int .i64 (.var 4)], own := true }, { t := 63, cs := [.int .i64 (.lit 4), .iface 75 (.ptr { blk := 3 })], own := true }, { t := 25, cs := [.int .i64 (.var 2), .int .i64 (.var 3), .int .i64 (.var 4)], own := true }, { t := 25, cs := [.int .i64 (.lit 0), .int .i64 (.lit 0), .int .i64 (.lit 0)], own := true }],  top := { f := 18, fr := [(12, .w (.one (.bool (.not (.and (.ile (.lit 0) (.var 1)) (.ilt (.var 1) (.lit 9))))))), (11, .w (.one (.bool (.not (.and (.ile (.lit 0) (.var 1)) (.ilt (.var 1) (.lit 9))))))), (10, .w (.one (.bool (.and (.ile (.lit 0) (.var 1)) (.ilt (.var 1) (.lit 9)))))), (9, .w (.one (.int .i64 (.var 1)))), (8, .w (.one (.bool (.not (.ilt (.var 0) (.lit 6)))))), (7, .w (.one (.bool (.not (.ilt (.var 0) (.lit 6)))))), (6, .w (.one (.bool (.ilt (.var 0) (.lit 6))))), (5, .w (.one (.int .i64 (.var 0)))), (4, .w (.one (.int .i64 (.lit 0)))), (0, .w (.one (.int .i64 (.var 0)))), (1, .w (.one (.int .i64 (.var 1))))], cur := .none, todo := [.code [1, 0, 1], .code [1, 1]] },  stk := [({ f := 4, fr := [(57, .w (.agg [.int .i64 (.lit 0), .int .i64 (.lit 0), .int .i64 (.lit 0)])), (60, .w (.one (.int .i64 (.var 1)))), (59, .w (.one (.int .i64 (.var 0)))), (58, .w (.one (.iface 61 (.ptr { blk := 9 })))), (56, .w (.one (.bool (.lit true)))), (55, .w (.one (.bool (.lit true)))), (54, .w (.one (.int .i64 (.lit (-1))))), (51, .w (.agg [.int .i64 (.lit 0), .int .i64 (.lit 0), .int .i64 (.lit 0)])), (53, .w (.one (.int .i64 (.var 1)))), (52, .w (.one (.iface 61 (.ptr { blk := 6 })))), (19, .w (.one (.int .i64 (.lit 0)))), (18, .w (.one (.int .i64 (.lit 0)))), (17, .w (.one (.str []))), (50, .w (.one (.int .i64 (.lit 0)))), (49, .w (.one (.int .i64 (.lit 0)))), (48, .w (.one (.str []))), (45, .tup [.one (.str []), .one (.int .i64 (.lit 0)), .one (.int .i64 (.lit 0))]), (47, .tup [.one (.str []), .one (.int .i64 (.lit 0)), .one (.int .i64 (.lit 0))]), (46, .w (.agg [.int .i64 (.var 2), .int .i64 (.var 3), .int .i64 (.var 4)])), (16, .w (.one (.iface 61 (.ptr { blk := 14 })))), (15, .w (.one (.int .i64 (.lit 0)))), (14, .w (.one (.int .i64 (.lit 0)))), (13, .w (.one (.str []))), (44, .w (.one (.iface 61 (.ptr { blk := 14 })))), (43, .w (.one (.int .i64 (.lit 0)))), (42, .w (.one (.int .i64 (.lit 0)))), (41, .w (.one (.str []))), (38, .tup [.one (.str []), .one (.int .i64 (.lit 0)), .one (.int .i64 (.lit 0)), .one (.iface 61 (.ptr { blk := 14 }))]), (40, .tup [.one (.str []), .one (.int .i64 (.lit 0)), .one (.int .i64 (.lit 0)), .one (.iface 61 (.ptr { blk := 14 }))]), (39, .w (.agg [.int .i64 (.var 2), .int .i64 (.var 3), .int .i64 (.var 4)])), (12, .w (.one (.nilif))), (11, .w (.one (.ptr { blk := 12 }))), (37, .w (.one (.nilif))), (36, .w (.agg [.int .i64 (.lit 0), .int .i64 (.lit 0), .int .i64 (.add (.lit 79) (.var 0))])), (33, .tup [.agg [.int .i64 (.lit 0), .int .i64 (.lit 0), .int .i64 (.add (.lit 79) (.var 0))], .one (.nilif)]), (35, .tup [.agg [.int .i64 (.lit 0), .int .i64 (.lit 0), .int .i64 (.add (.lit 79) (.var 0))], .one (.nilif)]), (34, .w (.one (.int .i64 (.var 0)))), (10, .w (.one (.iface 61 (.ptr { blk := 9 })))), (9, .w (.one (.ptr { blk := 10 }))), (32, .w (.one (.iface 61 (.ptr { blk := 9 })))), (31, .w (.agg [.int .i64 (.lit 0), .int .i64 (.lit 0), .int .i64 (.lit 0)])), (27, .tup [.agg [.int .i64 (.lit 0), .int .i64 (.lit 0), .int .i64 (.lit 0)], .one (.iface 61 (.ptr { blk := 9 }))]), (30, .tup [.agg [.int .i64 (.lit 0), .int .i64 (.lit 0), .int .i64 (.lit 0)], .one (.iface 61 (.ptr { blk := 9 }))]), (29, .w (.one (.int .i64 (.var 1)))), (28, .w (.one (.int .i64 (.var 0)))), (8, .w (.one (.iface 61 (.ptr { blk := 6 })))), (7, .w (.one (.ptr { blk := 7 }))), (26, .w (.one (.iface 61 (.ptr { blk := 6 })))), (25, .w (.agg [.int .i64 (.lit 0), .int .i64 (.lit 0), .int .i64 (.lit 0)])), (22, .tup [.agg [.int .i64 (.lit 0), .int .i64 (.lit 0), .int .i64 (.lit 0)], .one (.iface 61 (.ptr { blk := 6 }))]), (24, .tup [.agg [.int .i64 (.lit 0), .int .i64 (.lit 0), .int .i64 (.lit 0)], .one (.iface 61 (.ptr { blk := 6 }))]), (23, .w (.one (.int .i64 (.var 1)))), (21, .w (.one (.bool (.lit false)))), (20, .w (.one (.bool (.lit true)))), (6, .w (.one (.bool (.lit false)))), (5, .w (.one (.ptr { blk := 4 }))), (0, .w (.one (.int .i64 (.var 0)))), (1, .w (.one (.int .i64 (.var 1)))), (2, .w (.agg [.int .i64 (.var 2), .int .i64 (.var 3), .int .i64 (.var 4)]))], cur := .dr [1, 1, 1, 1, 1, 1, 1, 0] (.solo 10 <| .solo 11 <| .solo 12 <| .solo 13 <| .take 15 <| .take 16 <| .take 14 <| .solo 17 <| .solo 18 <| .solo 19 <| .solo 20 <| .take 21 <| .solo 22 <| .solo 23 <| .solo 24 <| .solo 25 <| .take 26 <| .solo 27 <| .solo 28 <| .solo 29 <| .solo 30 <| .take 31 <| .solo 32 <| .solo 33 <| .solo 34 <| .solo 35 <| .take 36 <| .take 37 <| .solo 38 <| .solo 39 <| .solo 40 <| .solo 41 <| .solo 42 <| .solo 43 <| .solo 44 <| .solo 45 <| .take 46 <| .solo 47 <| .solo 48 <| .solo 49 <| .solo 50 <| .solo 51 <| .nil) [{ t := 0, gone := true }, { t := 0, gone := true }, { t := 0, gone := true }, { t := 0, gone := true }, { t := 0, gone := true }, { t := 0, gone := true }, { t := 0, gone := true }, { t := 25, cs := [.int .i64 (.lit 0), .int .i64 (.lit 0), .int .i64 (.lit 0)], own := true }, { t := 0, gone := true }, { t := 0, gone := true }, { t := 25, cs := [.int .i64 (.lit 0), .int .i64 (.lit 0), .int .i64 (.lit 0)], own := true }] false, todo := [.code [1, 1, 1, 1, 1, 1, 1, 1]] }, 10)] }
def ex_c25 : Cfg := { nv := 5, kn := [((.ilt (.var 1) (.lit 0)), true), ((.ile (.lit 0) (.var 1)), true), ((.ilt (.var 1) (.lit 24)), true), ((.or (.ilt (.var 4) (.lit 0)) (.ile (.lit 85) (.var 4))), true), ((.ieq (.var 3) (.lit 0)), true), ((.ieq (.var 2) (.lit 0)), true), ((.inr .i64 (.add (.lit 79) (.var 0))), true), ((.or (.ilt (.var 1) (.lit 0)) (.ile (.lit 9) (.var 1))), true), ((.ile (.lit 0) (.var 0)), true), ((.ilt (.var 0) (.lit 6)), true), ((.or (.ilt (.var 1) (.lit 0)) (.ile (.lit 24) (.var 1))), true)],  gl := [(1, 0), (0, 2)], hp := [{ t := 27, cs := [.iface 75 (.ptr { blk := 1 })], ro := true }, { t := 100, cs := [.hole], ro := true }, { t := 27, cs := [.iface 75 (.ptr { blk := 3 })], ro := true }, { t := 100, cs := [.hole], ro := true }, { t := 25, cs := [.int .i64 (.var 2), .int .i64 (.var 3), .int .i64 (.var 4)], own := true }, { t := 25, cs := [.int .i64 (.lit 0), .int .i64 (.lit 0), .int .i64 (.lit 0)], own := true }, { t := 63, cs := [.int .i64 (.lit 4), .iface 75 (.ptr { blk := 1 })], own := true }, { t := 25, cs := [.int .i64 (.lit 0), .int .i64 (.lit 0), .int .i64 (.lit 0)], own := true }, { t := 25, cs := [.int .i64 (.lit 0), .int .i64 (.lit 0), .int .i64 (.lit 0)], own := true }, { t := 63, cs := [.int .i64 (.lit 4), .iface 75 (.ptr { blk := 1 })], own := true }, { t := 25, cs := [.int .i64 (.lit 0), .int .i64 (.lit 0), .int .i64 (.lit 0)], own := true }, { t := 25, cs := [.int .i64 (.lit 0), .int .i64 (.lit 0), .int .i64 (.add (.lit 79) (.var 0))], own := true }, { t := 25, cs := [.int .i64 (.lit 0), .int .i64 (.lit 0), .int .i64 (.add (.lit 79) (.var 0))], own := true }, { t := 25, cs := [.int .i64 (.var 2), .int .i64 (.var 3), .int .i64 (.var 4)], own := true }, { t := 63, cs := [.int .i64 (.lit 4), .iface 75 (.ptr { blk := 3 })], own := true }, { t := 25, cs := [.int .i64 (.var 2), .int .i64 (.var 3), .int .i64 (.var 4)], own := true }, { t := 25, cs := [.int .i64 (.lit 0), .int .i64 (.lit 0), .int .i64 (.lit 0)], own := true }],  top := { f := 16, fr := [(8, .w (.one (.bool (.ilt (.var 1) (.lit 0))))), (7, .w (.one (.int .i64 (.var 1)))), (6, .w (.one (.bool (.lit false)))), (3, .w (.one (.ptr { blk := 16 }))), (0, .w (.agg [.int .i64 (.lit 0), .int .i64 (.lit 0), .int .i64 (.lit 0)])), (1, .w (.one (.iface 61 (.ptr { blk := 6 })))), (2, .w (.one (.int .i64 (.var 1))))], cur := .none, todo := [.code [1, 0, 1], .code [1, 1]] },  stk := [({ f := 4, fr := [(54, .w (.one (.int .i64 (.var 1)))), (51, .w (.agg [.int .i64 (.lit 0), .int .i64 (.lit 0), .int .i64 (.lit 0)])), (53, .w (.one (.int .i64 (.var 1)))), (52, .w (.one (.iface 61 (.ptr { blk := 6 })))), (19, .w (.one (.int .i64 (.lit 0)))), (18, .w (.one (.int .i64 (.lit 0)))), (17, .w (.one (.str []))), (50, .w (.one (.int .i64 (.lit 0)))), (49, .w (.one (.int .i64 (.lit 0)))), (48, .w (.one (.str []))), (45, .tup [.one (.str []), .one (.int .i64 (.lit 0)), .one (.int .i64 (.lit 0))]), (47, .tup [.one (.str []), .one (.int .i64 (.lit 0)), .one (.int .i64 (.lit 0))]), (46, .w (.agg [.int .i64 (.var 2), .int .i64 (.var 3), .int .i64 (.var 4)])), (16, .w (.one (.iface 61 (.ptr { blk := 14 })))), (15, .w (.one (.int .i64 (.lit 0)))), (14, .w (.one (.int .i64 (.lit 0)))), (13, .w (.one (.str []))), (44, .w (.one (.iface 61 (.ptr { blk := 14 })))), (43, .w (.one (.int .i64 (.lit 0)))), (42, .w (.one (.int .i64 (.lit 0)))), (41, .w (.one (.str []))), (38, .tup [.one (.str []), .one (.int .i64 (.lit 0)), .one (.int .i64 (.lit 0)), .one (.iface 61 (.ptr { blk := 14 }))]), (40, .tup [.one (.str []), .one (.int .i64 (.lit 0)), .one (.int .i64 (.lit 0)), .one (.iface 61 (.ptr { blk := 14 }))]), (39, .w (.agg [.int .i64 (.var 2), .int .i64 (.var 3), .int .i64 (.var 4)])), (12, .w (.one (.nilif))), (11, .w (.one (.ptr { blk := 12 }))), (37, .w (.one (.nilif))), (36, .w (.agg [.int .i64 (.lit 0), .int .i64 (.lit 0), .int .i64 (.add (.lit 79) (.var 0))])), (33, .tup [.agg [.int .i64 (.lit 0), .int .i64 (.lit 0), .int .i64 (.add (.lit 79) (.var 0))], .one (.nilif)]), (35, .tup [.agg [.int .i64 (.lit 0), .int .i64 (.lit 0), .int .i64 (.add (.lit 79) (.var 0))], .one (.nilif)]), (34, .w (.one (.int .i64 (.var 0)))), (10, .w (.one (.iface 61 (.ptr { blk := 9 })))), (9, .w (.one (.ptr { blk := 10 }))), (32, .w (.one (.iface 61 (.ptr { blk := 9 })))), (31, .w (.agg [.int .i64 (.lit 0), .int .i64 (.lit 0), .int .i64 (.lit 0)])), (27, .tup [.agg [.int .i64 (.lit 0), .int .i64 (.lit 0), .int .i64 (.lit 0)], .one (.iface 61 (.ptr { blk := 9 }))]), (30, .tup [.agg [.int .i64 (.lit 0), .int .i64 (.lit 0), .int .i64 (.lit 0)], .one (.iface 61 (.ptr { blk := 9 }))]), (29, .w (.one (.int .i64 (.var 1)))), (28, .w (.one (.int .i64 (.var 0)))), (8, .w (.one (.iface 61 (.ptr { blk := 6 })))), (7, .w (.one (.ptr { blk := 7 }))), (26, .w (.one (.iface 61 (.ptr { blk := 6 })))), (25, .w (.agg [.int .i64 (.lit 0), .int .i64 (.lit 0), .int .i64 (.lit 0)])), (22, .tup [.agg [.int .i64 (.lit 0), .int .i64 (.lit 0), .int .i64 (.lit 0)], .one (.iface 61 (.ptr { blk := 6 }))]), (24, .tup [.agg [.int .i64 (.lit 0), .int .i64 (.lit 0), .int .i64 (.lit 0)], .one (.iface 61 (.ptr { blk := 6 }))]), (23, .w (.one (.int .i64 (.var 1)))), (21, .w (.one (.bool (.lit false)))), (20, .w (.one (.bool (.lit true)))), (6, .w (.one (.bool (.lit false)))), (5, .w (.one (.ptr { blk := 4 }))), (0, .w (.one (.int .i64 (.var 0)))), (1, .w (.one (.int .i64 (.var 1)))), (2, .w (.agg [.int .i64 (.var 2), .int .i64 (.var 3), .int .i64 (.var 4)]))], cur := .dr [1, 1, 1, 1, 1, 1, 1, 0] (.solo 4 <| .solo 5 <| .take 7 <| .take 8 <| .take 9 <| .take 6 <| .solo 10 <| .solo 11 <| .solo 12 <| .solo 13 <| .take 15 <| .take 16 <| .take 14 <| .solo 17 <| .solo 18 <| .solo 19 <| .solo 20 <| .take 21 <| .solo 22 <| .solo 23 <| .solo 24 <| .solo 25 <| .take 26 <| .solo 27 <| .solo 28 <| .solo 29 <| .solo 30 <| .take 31 <| .solo 32 <| .solo 33 <| .solo 34 <| .solo 35 <| .take 36 <| .take 37 <| .solo 38 <| .solo 39 <| .solo 40 <| .solo 41 <| .solo 42 <| .solo 43 <| .solo 44 <| .solo 45 <| .take 46 <| .solo 47 <| .solo 48 <| .solo 49 <| .solo 50 <| .solo 51 <| .nil) [{ t := 0, gone := true }, { t := 0, gone := true }, { t := 0, gone := true }, { t := 0, gone := true }, { t := 0, gone := true }, { t := 0, gone := true }, { t := 0, gone := true }, { t := 25, cs := [.int .i64 (.lit 0), .int .i64 (.lit 0), .int .i64 (.lit 0)], own := true }] false, todo := [.code [1, 1, 1, 1, 1, 1, 1, 1]] }, 4)] }
def ex_c26 : Cfg := { nv := 5, kn := [((.ilt (.var 1) (.lit 0)), false), ((.ile (.lit 0) (.var 1)), true), ((.ilt (.var 1) (.lit 24)), true), ((.or (.ilt (.var 4) (.lit 0)) (.ile (.lit 85) (.var 4))), true), ((.ieq (.var 3) (.lit 0)), true), ((.ieq (.var 2) (.lit 0)), true), ((.inr .i64 (.add (.lit 79) (.var 0))), true), ((.or (.ilt (.var 1) (.lit 0)) (.ile (.lit 9) (.var 1))), true), ((.ile (.lit 0) (.var 0)), true), ((.ilt (.var 0) (.lit 6)), true), ((.or (.ilt (.var 1) (.lit 0)) (.ile (.lit 24) (.var 1))), true)],  gl := [(1, 0), (0, 2)], hp := [{ t := 27, cs := [.iface 75 (.ptr { blk := 1 })], ro := true }, { t := 100, cs := [.hole], ro := true }, { t := 27, cs := [.iface 75 (.ptr { blk := 3 })], ro := true }, { t := 100, cs := [.hole], ro := true }, { t := 25, cs := [.int .i64 (.var 2), .int .i64 (.var 3), .int .i64 (.var 4)], own := true }, { t := 25, cs := [.int .i64 (.lit 0), .int .i64 (.lit 0), .int .i64 (.lit 0)], own := true }, { t := 63, cs := [.int .i64 (.lit 4), .iface 75 (.ptr { blk := 1 })], own := true }, { t := 25, cs := [.int .i64 (.lit 0), .int .i64 (.lit 0), .int .i64 (.lit 0)], own := true }, { t := 25, cs := [.int .i64 (.lit 0), .int .i64 (.lit 0), .int .i64 (.lit 0)], own := true }, { t := 63, cs := [.int .i64 (.lit 4), .iface 75 (.ptr { blk := 1 })], own := true }, { t := 25, cs := [.int .i64 (.lit 0), .int .i64 (.lit 0), .int .i64 (.lit 0)], own := true }, { t := 25, cs := [.int .i64 (.lit 0), .int .i64 (.lit 0), .int .i64 (.add (.lit 79) (.var 0))], own := true }, { t := 25, cs := [.int .i64 (.lit 0), .int .i64 (.lit 0), .int .i64 (.add (.lit 79) (.var 0))], own := true }, { t := 25, cs := [.int .i64 (.var 2), .int .i64 (.var 3), .int .i64 (.var 4)], own := true }, { t := 63, cs := [.int .i64 (.lit 4), .iface 75 (.ptr { blk := 3 })], own := true }, { t := 25, cs := [.int .i64 (.var 2), .int .i64 (.var 3), .int .i64 (.var 4)], own := true }, { t := 25, cs := [.int .i64 (.lit 0), .int .i64 (.lit 0), .int .i64 (.lit 0)], own := true }],  top := { f := 16, fr := [(8, .w (.one (.bool (.ilt (.var 1) (.lit 0))))), (7, .w (.one (.int .i64 (.var 1)))), (6, .w (.one (.bool (.lit false)))), (3, .w (.one (.ptr { blk := 16 }))), (0, .w (.agg [.int .i64 (.lit 0), .int .i64 (.lit 0), .int .i64 (.lit 0)])), (1, .w (.one (.iface 61 (.ptr { blk := 6 })))), (2, .w (.one (.int .i64 (.var 1))))], cur := .none, todo := [.code [1, 0, 1], .code [1, 1]] },  stk := [({ f := 4, fr := [(54, .w (.one (.int .i64 (.var 1)))), (51, .w (.agg [.int .i64 (.lit 0), .int .i64 (.lit 0), .int .i64 (.lit 0)])), (53, .w (.one (.int .i64 (.var 1)))), (52, .w (.one (.iface 61 (.ptr { blk := 6 })))), (19, .w (.one (.int .i64 (.lit 0)))), (18, .w (.one (.int .i64 (.lit 0)))), (17, .w (.one (.str []))), (50, .w (.one (.int .i64 (.lit 0)))), (49, .w (.one (.int .i64 (.lit 0)))), (48, .w (.one (.str []))), (45, .tup [.one (.str []), .one (.int .i64 (.lit 0)), .one (.int .i64 (.lit 0))]), (47, .tup [.one (.str []), .one (.int .i64 (.lit 0)), .one (.int .i64 (.lit 0))]), (46, .w (.agg [.int .i64 (.var 2), .int .i64 (.var 3), .int .i64 (.var 4)])), (16, .w (.one (.iface 61 (.ptr { blk := 14 })))), (15, .w (.one (.int .i64 (.lit 0)))), (14, .w (.one (.int .i64 (.lit 0)))), (13, .w (.one (.str []))), (44, .w (.one (.iface 61 (.ptr { blk := 14 })))), (43, .w (.one (.int .i64 (.lit 0)))), (42, .w (.one (.int .i64 (.lit 0)))), (41, .w (.one (.str []))), (38, .tup [.one (.str []), .one (.int .i64 (.lit 0)), .one (.int .i64 (.lit 0)), .one (.iface 61 (.ptr { blk := 14 }))]), (40, .tup [.one (.str []), .one (.int .i64 (.lit 0)), .one (.int .i64 (.lit 0)), .one (.iface 61 (.ptr { blk := 14 }))]), (39, .w (.agg [.int .i64 (.var 2), .int .i64 (.var 3), .int .i64 (.var 4)])), (12, .w (.one (.nilif))), (11, .w (.one (.ptr { blk := 12 }))), (37, .w (.one (.nilif))), (36, .w (.agg [.int .i64 (.lit 0), .int .i64 (.lit 0), .int .i64 (.add (.lit 79) (.var 0))])), (33, .tup [.agg [.int .i64 (.lit 0), .int .i64 (.lit 0), .int .i64 (.add (.lit 79) (.var 0))], .one (.nilif)]), (35, .tup [.agg [.int .i64 (.lit 0), .int .i64 (.lit 0), .int .i64 (.add (.lit 79) (.var 0))], .one (.nilif)]), (34, .w (.one (.int .i64 (.var 0)))), (10, .w (.one (.iface 61 (.ptr { blk := 9 })))), (9, .w (.one (.ptr { blk := 10 }))), (32, .w (.one (.iface 61 (.ptr { blk := 9 })))), (31, .w (.agg [.int .i64 (.lit 0), .int .i64 (.lit 0), .int .i64 (.lit 0)])), (27, .tup [.agg [.int .i64 (.lit 0), .int .i64 (.lit 0), .int .i64 (.lit 0)], .one (.iface 61 (.ptr { blk := 9 }))]), (30, .tup [.agg [.int .i64 (.lit 0), .int .i64 (.lit 0), .int .i64 (.lit 0)], .one (.iface 61 (.ptr { blk := 9 }))]), (29, .w (.one (.int .i64 (.var 1)))), (28, .w (.one (.int .i64 (.var 0)))), (8, .w (.one (.iface 61 (.ptr { blk := 6 })))), (7, .w (.one (.ptr { blk := 7 }))), (26, .w (.one (.iface 61 (.ptr { blk := 6 })))), (25, .w (.agg [.int .i64 (.lit 0), .int .i64 (.lit 0), .int .i64 (.lit 0)])), (22, .tup [.agg [.int .i64 (.lit 0), .int .i64 (.lit 0), .int .i64 (.lit 0)], .one (.iface 61 (.ptr { blk := 6 }))]), (24, .tup [.agg [.int .i64 (.lit 0), .int .i64 (.lit 0), .int .i64 (.lit 0)], .one (.iface 61 (.ptr { blk := 6 }))]), (23, .w (.one (.int .i64 (.var 1)))), (21, .w (.one (.bool (.lit false)))), (20, .w (.one (.bool (.lit true)))), (6, .w (.one (.bool (.lit false)))), (5, .w (.one (.ptr { blk := 4 }))), (0, .w (.one (.int .i64 (.var 0)))), (1, .w (.one (.int .i64 (.var 1)))), (2, .w (.agg [.int .i64 (.var 2), .int .i64 (.var 3), .int .i64 (.var 4)]))], cur := .dr [1, 1, 1, 1, 1, 1, 1, 0] (.solo 4 <| .solo 5 <| .take 7 <| .take 8 <| .take 9 <| .take 6 <| .solo 10 <| .solo 11 <| .solo 12 <| .solo 13 <| .take 15 <| .take 16 <| .take 14 <| .solo 17 <| .solo 18 <| .solo 19 <| .solo 20 <| .take 21 <| .solo 22 <| .solo 23 <| .solo 24 <| .solo 25 <| .take 26 <| .solo 27 <| .solo 28 <| .solo 29 <| .solo 30 <| .take 31 <| .solo 32 <| .solo 33 <| .solo 34 <| .solo 35 <| .take 36 <| .take 37 <| .solo 38 <| .solo 39 <| .solo 40 <| .solo 41 <| .solo 42 <| .solo 43 <| .solo 44 <| .solo 45 <| .take 46 <| .solo 47 <| .solo 48 <| .solo 49 <| .solo 50 <| .solo 51 <| .nil) [{ t := 0, gone := true }, { t := 0, gone := true }, { t := 0, gone := true }, { t := 0, gone := true }, { t := 0, gone := true }, { t := 0, gone := true }, { t := 0, gone := true }, { t := 25, cs := [.int .i64 (.lit 0), .int .i64 (.lit 0), .int .i64 (.lit 0)], own := true }] false, todo := [.code [1, 1, 1, 1, 1, 1, 1, 1]] }, 4)] }
def ex_c27 : Cfg := { nv := 5, kn := [((.and (.ile (.lit 0) (.var 1)) (.ilt (.var 1) (.lit 24))), false), ((.inr .i64 (.var 4)), true), ((.ilt (.var 4) (.lit 24)), true), ((.ilt (.var 4) (.lit 0)), false), ((.ile (.lit 85) (.var 4)), false), ((.ieq (.var 3) (.lit 0)), true), ((.ieq (.var 2) (.lit 0)), true), ((.inr .i64 (.add (.lit 79) (.var 0))), true), ((.or (.ilt (.var 1) (.lit 0)) (.ile (.lit 9) (.var 1))), true), ((.ile (.lit 0) (.var 0)), true), ((.ilt (.var 0) (.lit 6)), true), ((.or (.ilt (.var 1) (.lit 0)) (.ile (.lit 24) (.var 1))), true)],  gl := [(1, 0), (0, 2)], hp := [{ t := 27, cs := [.iface 75 (.ptr { blk := 1 })], ro := true }, { t := 100, cs := [.hole], ro := true }, { t := 27, cs := [.iface 75 (.ptr { blk := 3 })], ro := true }, { t := 100, cs := [.hole], ro := true }, { t := 25, cs := [.int .i64 (.var 2), .int .i64 (.var 3), .int .i64 (.var 4)], own := true }, { t := 25, cs := [.int .i64 (.lit 0), .int .i64 (.lit 0), .int .i64 (.lit 0)], own := true }, { t := 63, cs := [.int .i64 (.lit 4), .iface 75 (.ptr { blk := 1 })], own := true }, { t := 25, cs := [.int .i64 (.lit 0), .int .i64 (.lit 0), .int .i64 (.lit 0)], own := true }, { t := 25, cs := [.int .i64 (.lit 0), .int .i64 (.lit 0), .int .i64 (.lit 0)], own := true }, { t := 63, cs := [.int .i64 (.lit 4), .iface 75 (.ptr { blk := 1 })], own := true }, { t := 25, cs := [.int .i64 (.lit 0), .int .i64 (.lit 0), .int .i64 (.lit 0)], own := true }, { t := 25, cs := [.int .i64 (.lit 0), .int .i64 (.lit 0), .int .i64 (.add (.lit 79) (.var 0))], own := true }, { t := 25, cs := [.int .i64 (.lit 0), .int .i64 (.lit 0), .int .i64 (.add (.lit 79) (.var 0))], own := true }, { t := 25, cs := [.int .i64 (.var 2), .int .i64 (.var 3), .int .i64 (.var 4)], own := true }, { t := 25, cs := [.int .i64 (.var 2), .int .i64 (.var 3), .int .i64 (.var 4)], own := true }],  top := { f := 17, fr := [(5, .w (.one (.bool (.not (.and (.ile (.lit 0) (.var 1)) (.ilt (.var 1) (.lit 24))))))), (4, .w (.one (.bool (.and (.ile (.lit 0) (.var 1)) (.ilt (.var 1) (.lit 24)))))), (3, .w (.one (.int .i64 (.var 1)))), (2, .w (.one (.int .i64 (.lit 0)))), (0, .w (.one (.int .i64 (.var 1))))], cur := .none, todo := [.code [1, 0, 1], .code [1, 1]] },  stk := [({ f := 4, fr := [(51, .w (.agg [.int .i64 (.lit 0), .int .i64 (.lit 0), .int .i64 (.lit 0)])), (53, .w (.one (.int .i64 (.var 1)))), (52, .w (.one (.iface 61 (.ptr { blk := 6 })))), (19, .w (.one (.int .i64 (.var 4)))), (18, .w (.one (.int .i64 (.lit 0)))), (17, .w (.one (.str [114, 111, 111, 116]))), (50, .w (.one (.int .i64 (.var 4)))), (49, .w (.one (.int .i64 (.lit 0)))), (48, .w (.one (.str [114, 111, 111, 116]))), (45, .tup [.one (.str [114, 111, 111, 116]), .one (.int .i64 (.lit 0)), .one (.int .i64 (.var 4))]), (47, .tup [.one (.str [114, 111, 111, 116]), .one (.int .i64 (.lit 0)), .one (.int .i64 (.var 4))]), (46, .w (.agg [.int .i64 (.var 2), .int .i64 (.var 3), .int .i64 (.var 4)])), (16, .w (.one (.nilif))), (15, .w (.one (.int .i64 (.var 4)))), (14, .w (.one (.int .i64 (.lit 0)))), (13, .w (.one (.str [114, 111, 111, 116]))), (44, .w (.one (.nilif))), (43, .w (.one (.int .i64 (.var 4)))), (42, .w (.one (.int .i64 (.lit 0)))), (41, .w (.one (.str [114, 111, 111, 116]))), (38, .tup [.one (.str [114, 111, 111, 116]), .one (.int .i64 (.lit 0)), .one (.int .i64 (.var 4)), .one (.nilif)]), (40, .tup [.one (.str [114, 111, 111, 116]), .one (.int .i64 (.lit 0)), .one (.int .i64 (.var 4)), .one (.nilif)]), (39, .w (.agg [.int .i64 (.var 2), .int .i64 (.var 3), .int .i64 (.var 4)])), (12, .w (.one (.nilif))), (11, .w (.one (.ptr { blk := 12 }))), (37, .w (.one (.nilif))), (36, .w (.agg [.int .i64 (.lit 0), .int .i64 (.lit 0), .int .i64 (.add (.lit 79) (.var 0))])), (33, .tup [.agg [.int .i64 (.lit 0), .int .i64 (.lit 0), .int .i64 (.add (.lit 79) (.var 0))], .one (.nilif)]), (35, .tup [.agg [.int .i64 (.lit 0), .int .i64 (.lit 0), .int .i64 (.add (.lit 79) (.var 0))], .one (.nilif)]), (34, .w (.one (.int .i64 (.var 0)))), (10, .w (.one (.iface 61 (.ptr { blk := 9 })))), (9, .w (.one (.ptr { blk := 10 }))), (32, .w (.one (.iface 61 (.ptr { blk := 9 })))), (31, .w (.agg [.int .i64 (.lit 0), .int .i64 (.lit 0), .int .i64 (.lit 0)])), (27, .tup [.agg [.int .i64 (.lit 0), .int .i64 (.lit 0), .int .i64 (.lit 0)], .one (.iface 61 (.ptr { blk := 9 }))]), (30, .tup [.agg [.int .i64 (.lit 0), .int .i64 (.lit 0), .int .i64 (.lit 0)], .one (.iface 61 (.ptr { blk := 9 }))]), (29, .w (.one (.int .i64 (.var 1)))), (28, .w (.one (.int .i64 (.var 0)))), (8, .w (.one (.iface 61 (.ptr { blk := 6 })))), (7, .w (.one (.ptr { blk := 7 }))), (26, .w (.one (.iface 61 (.ptr { blk := 6 })))), (25, .w (.agg [.int .i64 (.lit 0), .int .i64 (.lit 0), .int .i64 (.lit 0)])), (22, .tup [.agg [.int .i64 (.lit 0), .int .i64 (.lit 0), .int .i64 (.lit 0)], .one (.iface 61 (.ptr { blk := 6 }))]), (24, .tup [.agg [.int .i64 (.lit 0), .int .i64 (.lit 0), .int .i64 (.lit 0)], .one (.iface 61 (.ptr { blk := 6 }))]), (23, .w (.one (.int .i64 (.var 1)))), (21, .w (.one (.bool (.lit false)))), (20, .w (.one (.bool (.lit true)))), (6, .w (.one (.bool (.lit false)))), (5, .w (.one (.ptr { blk := 4 }))), (0, .w (.one (.int .i64 (.var 0)))), (1, .w (.one (.int .i64 (.var 1)))), (2, .w (.agg [.int .i64 (.var 2), .int .i64 (.var 3), .int .i64 (.var 4)]))], cur := .dr [1, 1, 1, 1, 1, 1, 1, 0] (.solo 3 <| .solo 4 <| .solo 5 <| .take 7 <| .take 8 <| .take 9 <| .take 6 <| .solo 10 <| .solo 11 <| .solo 12 <| .solo 13 <| .take 15 <| .take 16 <| .take 14 <| .solo 17 <| .solo 18 <| .solo 19 <| .solo 20 <| .take 21 <| .solo 22 <| .solo 23 <| .solo 24 <| .solo 25 <| .take 26 <| .solo 27 <| .solo 28 <| .solo 29 <| .solo 30 <| .take 31 <| .solo 32 <| .solo 33 <| .solo 34 <| .solo 35 <| .take 36 <| .take 37 <| .solo 38 <| .solo 39 <| .solo 40 <| .solo 41 <| .solo 42 <| .solo 43 <| .solo 44 <| .solo 45 <| .take 46 <| .solo 47 <| .solo 48 <| .solo 49 <| .solo 50 <| .solo 51 <| .nil) [{ t := 0, gone := true }, { t := 0, gone := true }, { t := 0, gone := true }, { t := 0, gone := true }, { t := 0, gone := true }, { t := 0, gone := true }, { t := 0, gone := true }, { t := 25, cs := [.int .i64 (.lit 0), .int .i64 (.lit 0), .int .i64 (.lit 0)], own := true }] false, todo := [.code [1, 1, 1, 1, 1, 1, 1, 1]] }, 3)] }
def ex_c28 : Cfg := { nv := 5, kn := [((.ile (.lit 0) (.var 1)), true), ((.ilt (.var 1) (.lit 24)), true), ((.inr .i64 (.var 4)), true), ((.ilt (.var 4) (.lit 24)), true), ((.ilt (.var 4) (.lit 0)), false), ((.ile (.lit 85) (.var 4)), false), ((.ieq (.var 3) (.lit 0)), true), ((.ieq (.var 2) (.lit 0)), true), ((.inr .i64 (.add (.lit 79) (.var 0))), true), ((.or (.ilt (.var 1) (.lit 0)) (.ile (.lit 9) (.var 1))), true), ((.ile (.lit 0) (.var 0)), true), ((.ilt (.var 0) (.lit 6)), true), ((.or (.ilt (.var 1) (.lit 0)) (.ile (.lit 24) (.var 1))), true)],  gl := [(1, 0), (0, 2)], hp := [{ t := 27, cs := [.iface 75 (.ptr { blk := 1 })], ro := true }, { t := 100, cs := [.hole], ro := true }, { t := 27, cs := [.iface 75 (.ptr { blk := 3 })], ro := true }, { t := 100, cs := [.hole], ro := true }, { t := 25, cs := [.int .i64 (.var 2), .int .i64 (.var 3), .int .i64 (.var 4)], own := true }, { t := 25, cs := [.int .i64 (.lit 0), .int .i64 (.lit 0), .int .i64 (.lit 0)], own := true }, { t := 63, cs := [.int .i64 (.lit 4), .iface 75 (.ptr { blk := 1 })], own := true }, { t := 25, cs := [.int .i64 (.lit 0), .int .i64 (.lit 0), .int .i64 (.lit 0)], own := true }, { t := 25, cs := [.int .i64 (.lit 0), .int .i64 (.lit 0), .int .i64 (.lit 0)], own := true }, { t := 63, cs := [.int .i64 (.lit 4), .iface 75 (.ptr { blk := 1 })], own := true }, { t := 25, cs := [.int .i64 (.lit 0), .int .i64 (.lit 0), .int .i64 (.lit 0)], own := true }, { t := 25, cs := [.int .i64 (.lit 0), .int .i64 (.lit 0), .int .i64 (.add (.lit 79) (.var 0))], own := true }, { t := 25, cs := [.int .i64 (.lit 0), .int .i64 (.lit 0), .int .i64 (.add (.lit 79) (.var 0))], own := true }, { t := 25, cs := [.int .i64 (.var 2), .int .i64 (.var 3), .int .i64 (.var 4)], own := true }, { t := 25, cs := [.int .i64 (.var 2), .int .i64 (.var 3), .int .i64 (.var 4)], own := true }],  top := { f := 17, fr := [(5, .w (.one (.bool (.not (.and (.ile (.lit 0) (.var 1)) (.ilt (.var 1) (.lit 24))))))), (4, .w (.one (.bool (.and (.ile (.lit 0) (.var 1)) (.ilt (.var 1) (.lit 24)))))), (3, .w (.one (.int .i64 (.var 1)))), (2, .w (.one (.int .i64 (.lit 0)))), (0, .w (.one (.int .i64 (.var 1))))], cur := .none, todo := [.code [1, 0, 1], .code [1, 1]] },  stk := [({ f := 4, fr := [(51, .w (.agg [.int .i64 (.lit 0), .int .i64 (.lit 0), .int .i64 (.lit 0)])), (53, .w (.one (.int .i64 (.var 1)))), (52, .w (.one (.iface 61 (.ptr { blk := 6 })))), (19, .w (.one (.int .i64 (.var 4)))), (18, .w (.one (.int .i64 (.lit 0)))), (17, .w (.one (.str [114, 111, 111, 116]))), (50, .w (.one (.int .i64 (.var 4)))), (49, .w (.one (.int .i64 (.lit 0)))), (48, .w (.one (.str [114, 111, 111, 116]))), (45, .tup [.one (.str [114, 111, 111, 116]), .one (.int .i64 (.lit 0)), .one (.int .i64 (.var 4))]), (47, .tup [.one (.str [114, 111, 111, 116]), .one (.int .i64 (.lit 0)), .one (.int .i64 (.var 4))]), (46, .w (.agg [.int .i64 (.var 2), .int .i64 (.var 3), .int .i64 (.var 4)])), (16, .w (.one (.nilif))), (15, .w (.one (.int .i64 (.var 4)))), (14, .w (.one (.int .i64 (.lit 0)))), (13, .w (.one (.str [114, 111, 111, 116]))), (44, .w (.one (.nilif))), (43, .w (.one (.int .i64 (.var 4)))), (42, .w (.one (.int .i64 (.lit 0)))), (41, .w (.one (.str [114, 111, 111, 116]))), (38, .tup [.one (.str [114, 111, 111, 116]), .one (.int .i64 (.lit 0)), .one (.int .i64 (.var 4)), .one (.nilif)]), (40, .tup [.one (.str [114, 111, 111, 116]), .one (.int .i64 (.lit 0)), .one (.int .i64 (.var 4)), .one (.nilif)]), (39, .w (.agg [.int .i64 (.var 2), .int .i64 (.var 3), .int .i64 (.var 4)])), (12, .w (.one (.nilif))), (11, .w (.one (.ptr { blk := 12 }))), (37, .w (.one (.nilif))), (36, .w (.agg [.int .i64 (.lit 0), .int .i64 (.lit 0), .int .i64 (.add (.lit 79) (.var 0))])), (33, .tup [.agg [.int .i64 (.lit 0), .int .i64 (.lit 0), .int .i64 (.add (.lit 79) (.var 0))], .one (.nilif)]), (35, .tup [.agg [.int .i64 (.lit 0), .int .i64 (.lit 0), .int .i64 (.add (.lit 79) (.var 0))], .one (.nilif)]), (34, .w (.one (.int .i64 (.var 0)))), (10, .w (.one (.iface 61 (.ptr { blk := 9 })))), (9, .w (.one (.ptr { blk := 10 }))), (32, .w (.one (.iface 61 (.ptr { blk := 9 })))), (31, .w (.agg [.int .i64 (.lit 0), .int .i64 (.lit 0), .int .i64 (.lit 0)])), (27, .tup [.agg [.int .i64 (.lit 0), .int .i64 (.lit 0), .int .i64 (.lit 0)], .one (.iface 61 (.ptr { blk := 9 }))]), (30, .tup [.agg [.int .i64 (.lit 0), .int .i64 (.lit 0), .int .i64 (.lit 0)], .one (.iface 61 (.ptr { blk := 9 }))]), (29, .w (.one (.int .i64 (.var 1)))), (28, .w (.one (.int .i64 (.var 0)))), (8, .w (.one (.iface 61 (.ptr { blk := 6 })))), (7, .w (.one (.ptr { blk := 7 }))), (26, .w (.one (.iface 61 (.ptr { blk := 6 })))), (25, .w (.agg [.int .i64 (.lit 0), .int .i64 (.lit 0), .int .i64 (.lit 0)])), (22, .tup [.agg [.int .i64 (.lit 0), .int .i64 (.lit 0), .int .i64 (.lit 0)], .one (.iface 61 (.ptr { blk := 6 }))]), (24, .tup [.agg [.int .i64 (.lit 0), .int .i64 (.lit 0), .int .i64 (.lit 0)], .one (.iface 61 (.ptr { blk := 6 }))]), (23, .w (.one (.int .i64 (.var 1)))), (21, .w (.one (.bool (.lit false)))), (20, .w (.one (.bool (.lit true)))), (6, .w (.one (.bool (.lit false)))), (5, .w (.one (.ptr { blk := 4 }))), (0, .w (.one (.int .i64 (.var 0)))), (1, .w (.one (.int .i64 (.var 1)))), (2, .w (.agg [.int .i64 (.var 2), .int .i64 (.var 3), .int .i64 (.var 4)]))], cur := .dr [1, 1, 1, 1, 1, 1, 1, 0] (.solo 3 <| .solo 4 <| .solo 5 <| .take 7 <| .take 8 <| .take 9 <| .take 6 <| .solo 10 <| .solo 11 <| .solo 12 <| .solo 13 <| .take 15 <| .take 16 <| .take 14 <| .solo 17 <| .solo 18 <| .solo 19 <| .solo 20 <| .take 21 <| .solo 22 <| .solo 23 <| .solo 24 <| .solo 25 <| .take 26 <| .solo 27 <| .solo 28 <| .solo 29 <| .solo 30 <| .take 31 <| .solo 32 <| .solo 33 <| .solo 34 <| .solo 35 <| .take 36 <| .take 37 <| .solo 38 <| .solo 39 <| .solo 40 <| .solo 41 <| .solo 42 <| .solo 43 <| .solo 44 <| .solo 45 <| .take 46 <| .solo 47 <| .solo 48 <| .solo 49 <| .solo 50 <| .solo 51 <| .nil) [{ t := 0, gone := true }, { t := 0, gone := true }, { t := 0, gone := true }, { t := 0, gone := true }, { t := 0, gone := true }, { t := 0, gone := true }, { t := 0, gone := true }, { t := 25, cs := [.int .i64 (.lit 0), .int .i64 (.lit 0), .int .i64 (.lit 0)], own := true }] false, todo := [.code [1, 1, 1, 1, 1, 1, 1, 1]] }, 3)] }
def ex_c29 : Cfg := { nv := 5, kn := [((.ilt (.var 4) (.lit 25)), true), ((.ilt (.var 4) (.lit 24)), false), ((.ilt (.var 4) (.lit 0)), false), ((.ile (.lit 85) (.var 4)), false), ((.ieq (.var 3) (.lit 0)), true), ((.ieq (.var 2) (.lit 0)), true), ((.inr .i64 (.add (.lit 79) (.var 0))), true), ((.or (.ilt (.var 1) (.lit 0)) (.ile (.lit 9) (.var 1))), true), ((.ile (.lit 0) (.var 0)), true), ((.ilt (.var 0) (.lit 6)), true), ((.or (.ilt (.var 1) (.lit 0)) (.ile (.lit 24) (.var 1))), true)],  gl := [(1, 0), (0, 2)], hp := [{ t := 27, cs := [.iface 75 (.ptr { blk := 1 })], ro := true }, { t := 100, cs := [.hole], ro := true }, { t := 27, cs := [.iface 75 (.ptr { blk := 3 })], ro := true }, { t := 100, cs := [.hole], ro := true }, { t := 25, cs := [.int .i64 (.var 2), .int .i64 (.var 3), .int .i64 (.var 4)], own := true }, { t := 25, cs := [.int .i64 (.lit 0), .int .i64 (.lit 0), .int .i64 (.lit 0)], own := true }, { t := 63, cs := [.int .i64 (.lit 4), .iface 75 (.ptr { blk := 1 })], own := true }, { t := 25, cs := [.int .i64 (.lit 0), .int .i64 (.lit 0), .int .i64 (.lit 0)], own := true }, { t := 25, cs := [.int .i64 (.lit 0), .int .i64 (.lit 0), .int .i64 (.lit 0)], own := true }, { t := 63, cs := [.int .i64 (.lit 4), .iface 75 (.ptr { blk := 1 })], own := true }, { t := 25, cs := [.int .i64 (.lit 0), .int .i64 (.lit 0), .int .i64 (.lit 0)], own := true }, { t := 25, cs := [.int .i64 (.lit 0), .int .i64 (.lit 0), .int .i64 (.add (.lit 79) (.var 0))], own := true }, { t := 25, cs := [.int .i64 (.lit 0), .int .i64 (.lit 0), .int .i64 (.add (.lit 79) (.var 0))], own := true }, { t := 25, cs := [.int .i64 (.var 2), .int .i64 (.var 3), .int .i64 (.var 4)], own := true }],  top := { f := 14, fr := [(33, .w (.one (.bool (.ilt (.var 4) (.lit 25))))), (35, .w (.one (.bool (.ilt (.var 4) (.lit 25))))), (34, .w (.one (.int .i64 (.var 4)))), (28, .w (.one (.bool (.ilt (.var 4) (.lit 24))))), (30, .w (.one (.bool (.ilt (.var 4) (.lit 24))))), (29, .w (.one (.int .i64 (.var 4)))), (9, .w (.one (.bool (.or (.ilt (.var 4) (.lit 0)) (.ile (.lit 85) (.var 4)))))), (25, .w (.one (.bool (.or (.ilt (.var 4) (.lit 0)) (.ile (.lit 85) (.var 4)))))), (24, .gd (.not (.ilt (.var 4) (.lit 0))) (.one (.bool (.ile (.lit 85) (.var 4))))), (23, .gd (.not (.ilt (.var 4) (.lit 0))) (.one (.int .i64 (.var 4)))), (22, .w (.one (.bool (.ilt (.var 4) (.lit 0))))), (21, .w (.one (.bool (.ilt (.var 4) (.lit 0))))), (20, .gd (.ieq (.var 3) (.lit 0)) (.one (.bool (.ilt (.var 4) (.lit 0))))), (19, .gd (.ieq (.var 3) (.lit 0)) (.one (.int .i64 (.var 4)))), (18, .w (.one (.bool (.not (.ieq (.var 3) (.lit 0)))))), (17, .w (.one (.bool (.not (.ieq (.var 3) (.lit 0)))))), (16, .gd (.ieq (.var 2) (.lit 0)) (.one (.bool (.not (.ieq (.var 3) (.lit 0)))))), (15, .gd (.ieq (.var 2) (.lit 0)) (.one (.int .i64 (.var 3)))), (14, .gd (.ieq (.var 2) (.lit 0)) (.one (.ptr { blk := 13, j := 1 }))), (13, .w (.one (.bool (.not (.ieq (.var 2) (.lit 0)))))), (12, .w (.one (.bool (.not (.ieq (.var 2) (.lit 0)))))), (11, .w (.one (.int .i64 (.var 2)))), (10, .w (.one (.ptr { blk := 13 }))), (6, .w (.one (.int .i64 (.var 4)))), (8, .w (.one (.int .i64 (.var 4)))), (7, .w (.one (.ptr { blk := 13, j := 2 }))), (5, .w (.one (.nilif))), (4, .w (.one (.int .i64 (.lit 0)))), (3, .w (.one (.int .i64 (.lit 0)))), (2, .w (.one (.str []))), (1, .w (.one (.ptr { blk := 13 }))), (0, .w (.agg [.int .i64 (.var 2), .int .i64 (.var 3), .int .i64 (.var 4)]))], cur := .none, todo := [.code [1, 1, 0, 0, 1, 1, 1, 1, 1], .blk 0, .code [1, 1, 1]] },  stk := [({ f := 4, fr := [(39, .w (.agg [.int .i64 (.var 2), .int .i64 (.var 3), .int .i64 (.var 4)])), (12, .w (.one (.nilif))), (11, .w (.one (.ptr { blk := 12 }))), (37, .w (.one (.nilif))), (36, .w (.agg [.int .i64 (.lit 0), .int .i64 (.lit 0), .int .i64 (.add (.lit 79) (.var 0))])), (33, .tup [.agg [.int .i64 (.lit 0), .int .i64 (.lit 0), .int .i64 (.add (.lit 79) (.var 0))], .one (.nilif)]), (35, .tup [.agg [.int .i64 (.lit 0), .int .i64 (.lit 0), .int .i64 (.add (.lit 79) (.var 0))], .one (.nilif)]), (34, .w (.one (.int .i64 (.var 0)))), (10, .w (.one (.iface 61 (.ptr { blk := 9 })))), (9, .w (.one (.ptr { blk := 10 }))), (32, .w (.one (.iface 61 (.ptr { blk := 9 })))), (31, .w (.agg [.int .i64 (.lit 0), .int .i64 (.lit 0), .int .i64 (.lit 0)])), (27, .tup [.agg [.int .i64 (.lit 0), .int .i64 (.lit 0), .int .i64 (.lit 0)], .one (.iface 61 (.ptr { blk := 9 }))]), (30, .tup [.agg [.int .i64 (.lit 0), .int .i64 (.lit 0), .int .i64 (.lit 0)], .one (.iface 61 (.ptr { blk := 9 }))]), (29, .w (.one (.int .i64 (.var 1)))), (28, .w (.one (.int .i64 (.var 0)))), (8, .w (.one (.iface 61 (.ptr { blk := 6 })))), (7, .w (.one (.ptr { blk := 7 }))), (26, .w (.one (.iface 61 (.ptr { blk := 6 })))), (25, .w (.agg [.int .i64 (.lit 0), .int .i64 (.lit 0), .int .i64 (.lit 0)])), (22, .tup [.agg [.int .i64 (.lit 0), .int .i64 (.lit 0), .int .i64 (.lit 0)], .one (.iface 61 (.ptr { blk := 6 }))]), (24, .tup [.agg [.int .i64 (.lit 0), .int .i64 (.lit 0), .int .i64 (.lit 0)], .one (.iface 61 (.ptr { blk := 6 }))]), (23, .w (.one (.int .i64 (.var 1)))), (21, .w (.one (.bool (.lit false)))), (20, .w (.one (.bool (.lit true)))), (6, .w (.one (.bool (.lit false)))), (5, .w (.one (.ptr { blk := 4 }))), (0, .w (.one (.int .i64 (.var 0)))), (1, .w (.one (.int .i64 (.var 1)))), (2, .w (.agg [.int .i64 (.var 2), .int .i64 (.var 3), .int .i64 (.var 4)]))], cur := .reg [1, 1, 1, 1, 1, 0] 1, todo := [.code [1, 1, 1, 1, 1, 1]] }, 1)] }
def ex_c30 : Cfg := { nv := 5, kn := [((.ilt (.var 4) (.lit 25)), false), ((.ilt (.var 4) (.lit 24)), false), ((.ilt (.var 4) (.lit 0)), false), ((.ile (.lit 85) (.var 4)), false), ((.ieq (.var 3) (.lit 0)), true), ((.ieq (.var 2) (.lit 0)), true), ((.inr .i64 (.add (.lit 79) (.var 0))), true), ((.or (.ilt (.var 1) (.lit 0)) (.ile (.lit 9) (.var 1))), true), ((.ile (.lit 0) (.var 0)), true), ((.ilt (.var 0) (.lit 6)), true), ((.or (.ilt (.var 1) (.lit 0)) (.ile (.lit 24) (.var 1))), true)],  gl := [(1, 0), (0, 2)], hp := [{ t := 27, cs := [.iface 75 (.ptr { blk := 1 })], ro := true }, { t := 100, cs := [.hole], ro := true }, { t := 27, cs := [.iface 75 (.ptr { blk := 3 })], ro := true }, { t := 100, cs := [.hole], ro := true }, { t := 25, cs := [.int .i64 (.var 2), .int .i64 (.var 3), .int .i64 (.var 4)], own := true }, { t := 25, cs := [.int .i64 (.lit 0), .int .i64 (.lit 0), .int .i64 (.lit 0)], own := true }, { t := 63, cs := [.int .i64 (.lit 4), .iface 75 (.ptr { blk := 1 })], own := true }, { t := 25, cs := [.int .i64 (.lit 0), .int .i64 (.lit 0), .int .i64 (.lit 0)], own := true }, { t := 25, cs := [.int .i64 (.lit 0), .int .i64 (.lit 0), .int .i64 (.lit 0)], own := true }, { t := 63, cs := [.int .i64 (.lit 4), .iface 75 (.ptr { blk := 1 })], own := true }, { t := 25, cs := [.int .i64 (.lit 0), .int .i64 (.lit 0), .int .i64 (.lit 0)], own := true }, { t := 25, cs := [.int .i64 (.lit 0), .int .i64 (.lit 0), .int .i64 (.add (.lit 79) (.var 0))], own := true }, { t := 25, cs := [.int .i64 (.lit 0), .int .i64 (.lit 0), .int .i64 (.add (.lit 79) (.var 0))], own := true }, { t := 25, cs := [.int .i64 (.var 2), .int .i64 (.var 3), .int .i64 (.var 4)], own := true }],  top := { f := 14, fr := [(33, .w (.one (.bool (.ilt (.var 4) (.lit 25))))), (35, .w (.one (.bool (.ilt (.var 4) (.lit 25))))), (34, .w (.one (.int .i64 (.var 4)))), (28, .w (.one (.bool (.ilt (.var 4) (.lit 24))))), (30, .w (.one (.bool (.ilt (.var 4) (.lit 24))))), (29, .w (.one (.int .i64 (.var 4)))), (9, .w (.one (.bool (.or (.ilt (.var 4) (.lit 0)) (.ile (.lit 85) (.var 4)))))), (25, .w (.one (.bool (.or (.ilt (.var 4) (.lit 0)) (.ile (.lit 85) (.var 4)))))), (24, .gd (.not (.ilt (.var 4) (.lit 0))) (.one (.bool (.ile (.lit 85) (.var 4))))), (23, .gd (.not (.ilt (.var 4) (.lit 0))) (.one (.int .i64 (.var 4)))), (22, .w (.one (.bool (.ilt (.var 4) (.lit 0))))), (21, .w (.one (.bool (.ilt (.var 4) (.lit 0))))), (20, .gd (.ieq (.var 3) (.lit 0)) (.one (.bool (.ilt (.var 4) (.lit 0))))), (19, .gd (.ieq (.var 3) (.lit 0)) (.one (.int .i64 (.var 4)))), (18, .w (.one (.bool (.not (.ieq (.var 3) (.lit 0)))))), (17, .w (.one (.bool (.not (.ieq (.var 3) (.lit 0)))))), (16, .gd (.ieq (.var 2) (.lit 0)) (.one (.bool (.not (.ieq (.var 3) (.lit 0)))))), (15, .gd (.ieq (.var 2) (.lit 0)) (.one (.int .i64 (.var 3)))), (14, .gd (.ieq (.var 2) (.lit 0)) (.one (.ptr { blk := 13, j := 1 }))), (13, .w (.one (.bool (.not (.ieq (.var 2) (.lit 0)))))), (12, .w (.one (.bool (.not (.ieq (.var 2) (.lit 0)))))), (11, .w (.one (.int .i64 (.var 2)))), (10, .w (.one (.ptr { blk := 13 }))), (6, .w (.one (.int .i64 (.var 4)))), (8, .w (.one (.int .i64 (.var 4)))), (7, .w (.one (.ptr { blk := 13, j := 2 }))), (5, .w (.one (.nilif))), (4, .w (.one (.int .i64 (.lit 0)))), (3, .w (.one (.int .i64 (.lit 0)))), (2, .w (.one (.str []))), (1, .w (.one (.ptr { blk := 13 }))), (0, .w (.agg [.int .i64 (.var 2), .int .i64 (.var 3), .int .i64 (.var 4)]))], cur := .none, todo := [.code [1, 1, 0, 0, 1, 1, 1, 1, 1], .blk 0, .code [1, 1, 1]] },  stk := [({ f := 4, fr := [(39, .w (.agg [.int .i64 (.var 2), .int .i64 (.var 3), .int .i64 (.var 4)])), (12, .w (.one (.nilif))), (11, .w (.one (.ptr { blk := 12 }))), (37, .w (.one (.nilif))), (36, .w (.agg [.int .i64 (.lit 0), .int .i64 (.lit 0), .int .i64 (.add (.lit 79) (.var 0))])), (33, .tup [.agg [.int .i64 (.lit 0), .int .i64 (.lit 0), .int .i64 (.add (.lit 79) (.var 0))], .one (.nilif)]), (35, .tup [.agg [.int .i64 (.lit 0), .int .i64 (.lit 0), .int .i64 (.add (.lit 79) (.var 0))], .one (.nilif)]), (34, .w (.one (.int .i64 (.var 0)))), (10, .w (.one (.iface 61 (.ptr { blk := 9 })))), (9, .w (.one (.ptr { blk := 10 }))), (32, .w (.one (.iface 61 (.ptr { blk := 9 })))), (31, .w (.agg [.int .i64 (.lit 0), .int .i64 (.lit 0), .int .i64 (.lit 0)])), (27, .tup [.agg [.int .i64 (.lit 0), .int .i64 (.lit 0), .int .i64 (.lit 0)], .one (.iface 61 (.ptr { blk := 9 }))]), (30, .tup [.agg [.int .i64 (.lit 0), .int .i64 (.lit 0), .int .i64 (.lit 0)], .one (.iface 61 (.ptr { blk := 9 }))]), (29, .w (.one (.int .i64 (.var 1)))), (28, .w (.one (.int .i64 (.var 0)))), (8, .w (.one (.iface 61 (.ptr { blk := 6 })))), (7, .w (.one (.ptr { blk := 7 }))), (26, .w (.one (.iface 61 (.ptr { blk := 6 })))), (25, .w (.agg [.int .i64 (.lit 0), .int .i64 (.lit 0), .int .i64 (.lit 0)])), (22, .tup [.agg [.int .i64 (.lit 0), .int .i64 (.lit 0), .int .i64 (.lit 0)], .one (.iface 61 (.ptr { blk := 6 }))]), (24, .tup [.agg [.int .i64 (.lit 0), .int .i64 (.lit 0), .int .i64 (.lit 0)], .one (.iface 61 (.ptr { blk := 6 }))]), (23, .w (.one (.int .i64 (.var 1)))), (21, .w (.one (.bool (.lit false)))), (20, .w (.one (.bool (.lit true)))), (6, .w (.one (.bool (.lit false)))), (5, .w (.one (.ptr { blk := 4 }))), (0, .w (.one (.int .i64 (.var 0)))), (1, .w (.one (.int .i64 (.var 1)))), (2, .w (.agg [.int .i64 (.var 2), .int .i64 (.var 3), .int .i64 (.var 4)]))], cur := .reg [1, 1, 1, 1, 1, 0] 1, todo := [.code [1, 1, 1, 1, 1, 1]] }, 1)] }
def ex_p30 : Out :=
  .br (.ilt (.var 4) (.lit 79))
  (.ob (.inr .i64 (.sub (.var 4) (.lit 25))) <|
   .ob (.inr .i64 (.div (.sub (.var 4) (.lit 25)) (.lit 9))) <|
   .br (.ieq (.var 4) (.lit 24))
   (.br (.not (.and (.ile (.lit 0) (.var 1)) (.ilt (.var 1) (.lit 24))))
    (.call 0 { lo := 0, lob := 0, iv := [(0, (.lit 4))], bk := [(1, { blk := 1 }), (0, { blk := 6 })] } 5 <|
     .br (.not (.and (.ile (.lit 0) (.var 1)) (.ilt (.var 1) (.lit 9))))
     (.call 0 { lo := 0, lob := 0, iv := [(0, (.lit 4))], bk := [(1, { blk := 1 }), (0, { blk := 9 })] } 5 <|
      .br (.ilt (.add (.lit 79) (.var 0)) (.lit 0))
      (.bad 17)
      (.fin { lo := 5, lob := 4, bv := [(5, (.lit false))] }))
     (.ob (.inr .i64 (.mul (.lit 9) (.var 0))) <|
      .ob (.inr .i64 (.add (.lit 25) (.mul (.lit 9) (.var 0)))) <|
      .ob (.inr .i64 (.add (.add (.lit 25) (.mul (.lit 9) (.var 0))) (.var 1))) <|
      .br (.ilt (.add (.add (.lit 25) (.mul (.lit 9) (.var 0))) (.var 1)) (.lit 0))
      (.call 0 { lo := 0, lob := 0, iv := [(0, (.lit 4))], bk := [(1, { blk := 1 }), (0, { blk := 9 })] } 5 <|
       .br (.ilt (.add (.lit 79) (.var 0)) (.lit 0))
       (.bad 17)
       (.fin { lo := 5, lob := 4, bv := [(5, (.lit false))] }))
      (.fin { lo := 5, lob := 4, bv := [(5, (.lit false))] })))
    (.br (.ilt (.var 1) (.lit 0))
     (.call 0 { lo := 0, lob := 0, iv := [(0, (.lit 4))], bk := [(1, { blk := 1 }), (0, { blk := 6 })] } 5 <|
      .br (.not (.ilt (.var 1) (.lit 9)))
      (.call 0 { lo := 0, lob := 0, iv := [(0, (.lit 4))], bk := [(1, { blk := 1 }), (0, { blk := 9 })] } 5 <|
       .br (.ilt (.add (.lit 79) (.var 0)) (.lit 0))
       (.bad 17)
       (.fin { lo := 5, lob := 4, bv := [(5, (.lit false))] }))
      (.ob (.inr .i64 (.mul (.lit 9) (.var 0))) <|
       .ob (.inr .i64 (.add (.lit 25) (.mul (.lit 9) (.var 0)))) <|
       .ob (.inr .i64 (.add (.add (.lit 25) (.mul (.lit 9) (.var 0))) (.var 1))) <|
       .br (.ilt (.add (.add (.lit 25) (.mul (.lit 9) (.var 0))) (.var 1)) (.lit 0))
       (.call 0 { lo := 0, lob := 0, iv := [(0, (.lit 4))], bk := [(1, { blk := 1 }), (0, { blk := 9 })] } 5 <|
        .br (.ilt (.add (.lit 79) (.var 0)) (.lit 0))
        (.bad 17)
        (.fin { lo := 5, lob := 4, bv := [(5, (.lit false))] }))
       (.fin { lo := 5, lob := 4, bv := [(5, (.lit false))] })))
     (.fin { lo := 5, lob := 4, bv := [(5, (.lit false))] })))
   (.br (.not (.and (.ile (.lit 0) (.var 1)) (.ilt (.var 1) (.lit 24))))
    (.call 0 { lo := 0, lob := 0, iv := [(0, (.lit 4))], bk := [(1, { blk := 1 }), (0, { blk := 6 })] } 5 <|
     .br (.not (.and (.ile (.lit 0) (.var 1)) (.ilt (.var 1) (.lit 9))))
     (.call 0 { lo := 0, lob := 0, iv := [(0, (.lit 4))], bk := [(1, { blk := 1 }), (0, { blk := 9 })] } 5 <|
      .br (.ilt (.add (.lit 79) (.var 0)) (.lit 0))
      (.bad 17)
      (.fin { lo := 5, lob := 4, bv := [(5, (.lit true))] }))
     (.ob (.inr .i64 (.mul (.lit 9) (.var 0))) <|
      .ob (.inr .i64 (.add (.lit 25) (.mul (.lit 9) (.var 0)))) <|
      .ob (.inr .i64 (.add (.add (.lit 25) (.mul (.lit 9) (.var 0))) (.var 1))) <|
      .br (.ilt (.add (.add (.lit 25) (.mul (.lit 9) (.var 0))) (.var 1)) (.lit 0))
      (.call 0 { lo := 0, lob := 0, iv := [(0, (.lit 4))], bk := [(1, { blk := 1 }), (0, { blk := 9 })] } 5 <|
       .br (.ilt (.add (.lit 79) (.var 0)) (.lit 0))
       (.bad 17)
       (.fin { lo := 5, lob := 4, bv := [(5, (.lit true))] }))
      (.fin { lo := 5, lob := 4, bv := [(5, (.lit false))] })))
    (.br (.ilt (.var 1) (.lit 0))
     (.call 0 { lo := 0, lob := 0, iv := [(0, (.lit 4))], bk := [(1, { blk := 1 }), (0, { blk := 6 })] } 5 <|
      .br (.not (.ilt (.var 1) (.lit 9)))
      (.call 0 { lo := 0, lob := 0, iv := [(0, (.lit 4))], bk := [(1, { blk := 1 }), (0, { blk := 9 })] } 5 <|
       .br (.ilt (.add (.lit 79) (.var 0)) (.lit 0))
       (.bad 17)
       (.fin { lo := 5, lob := 4, bv := [(5, (.lit true))] }))
      (.ob (.inr .i64 (.mul (.lit 9) (.var 0))) <|
       .ob (.inr .i64 (.add (.lit 25) (.mul (.lit 9) (.var 0)))) <|
       .ob (.inr .i64 (.add (.add (.lit 25) (.mul (.lit 9) (.var 0))) (.var 1))) <|
       .br (.ilt (.add (.add (.lit 25) (.mul (.lit 9) (.var 0))) (.var 1)) (.lit 0))
       (.call 0 { lo := 0, lob := 0, iv := [(0, (.lit 4))], bk := [(1, { blk := 1 }), (0, { blk := 9 })] } 5 <|
        .br (.ilt (.add (.lit 79) (.var 0)) (.lit 0))
        (.bad 17)
        (.fin { lo := 5, lob := 4, bv := [(5, (.lit true))] }))
       (.fin { lo := 5, lob := 4, bv := [(5, (.lit false))] })))
     (.fin { lo := 5, lob := 4, bv := [(5, (.lit false))] }))))
  (.ob (.inr .i64 (.sub (.var 4) (.lit 79))) <|
   .br (.ieq (.var 4) (.lit 24))
   (.br (.not (.and (.ile (.lit 0) (.var 1)) (.ilt (.var 1) (.lit 24))))
    (.call 0 { lo := 0, lob := 0, iv := [(0, (.lit 4))], bk := [(1, { blk := 1 }), (0, { blk := 6 })] } 5 <|
     .br (.not (.and (.ile (.lit 0) (.var 1)) (.ilt (.var 1) (.lit 9))))
     (.call 0 { lo := 0, lob := 0, iv := [(0, (.lit 4))], bk := [(1, { blk := 1 }), (0, { blk := 9 })] } 5 <|
      .br (.ilt (.add (.lit 79) (.var 0)) (.lit 0))
      (.bad 17)
      (.fin { lo := 5, lob := 4, bv := [(5, (.lit false))] }))
     (.ob (.inr .i64 (.mul (.lit 9) (.var 0))) <|
      .ob (.inr .i64 (.add (.lit 25) (.mul (.lit 9) (.var 0)))) <|
      .ob (.inr .i64 (.add (.add (.lit 25) (.mul (.lit 9) (.var 0))) (.var 1))) <|
      .br (.ilt (.add (.add (.lit 25) (.mul (.lit 9) (.var 0))) (.var 1)) (.lit 0))
      (.call 0 { lo := 0, lob := 0, iv := [(0, (.lit 4))], bk := [(1, { blk := 1 }), (0, { blk := 9 })] } 5 <|
       .br (.ilt (.add (.lit 79) (.var 0)) (.lit 0))
       (.bad 17)
       (.fin { lo := 5, lob := 4, bv := [(5, (.lit false))] }))
      (.fin { lo := 5, lob := 4, bv := [(5, (.lit false))] })))
    (.br (.ilt (.var 1) (.lit 0))
     (.call 0 { lo := 0, lob := 0, iv := [(0, (.lit 4))], bk := [(1, { blk := 1 }), (0, { blk := 6 })] } 5 <|
      .br (.not (.ilt (.var 1) (.lit 9)))
      (.call 0 { lo := 0, lob := 0, iv := [(0, (.lit 4))], bk := [(1, { blk := 1 }), (0, { blk := 9 })] } 5 <|
       .br (.ilt (.add (.lit 79) (.var 0)) (.lit 0))
       (.bad 17)
       (.fin { lo := 5, lob := 4, bv := [(5, (.lit false))] }))
      (.ob (.inr .i64 (.mul (.lit 9) (.var 0))) <|
       .ob (.inr .i64 (.add (.lit 25) (.mul (.lit 9) (.var 0)))) <|
       .ob (.inr .i64 (.add (.add (.lit 25) (.mul (.lit 9) (.var 0))) (.var 1))) <|
       .br (.ilt (.add (.add (.lit 25) (.mul (.lit 9) (.var 0))) (.var 1)) (.lit 0))
       (.call 0 { lo := 0, lob := 0, iv := [(0, (.lit 4))], bk := [(1, { blk := 1 }), (0, { blk := 9 })] } 5 <|
        .br (.ilt (.add (.lit 79) (.var 0)) (.lit 0))
        (.bad 17)
        (.fin { lo := 5, lob := 4, bv := [(5, (.lit false))] }))
       (.fin { lo := 5, lob := 4, bv := [(5, (.lit false))] })))
     (.fin { lo := 5, lob := 4, bv := [(5, (.lit false))] })))
   (.br (.not (.and (.ile (.lit 0) (.var 1)) (.ilt (.var 1) (.lit 24))))
    (.call 0 { lo := 0, lob := 0, iv := [(0, (.lit 4))], bk := [(1, { blk := 1 }), (0, { blk := 6 })] } 5 <|
     .br (.not (.and (.ile (.lit 0) (.var 1)) (.ilt (.var 1) (.lit 9))))
     (.call 0 { lo := 0, lob := 0, iv := [(0, (.lit 4))], bk := [(1, { blk := 1 }), (0, { blk := 9 })] } 5 <|
      .br (.ilt (.add (.lit 79) (.var 0)) (.lit 0))
      (.bad 17)
      (.fin { lo := 5, lob := 4, bv := [(5, (.lit true))] }))
     (.ob (.inr .i64 (.mul (.lit 9) (.var 0))) <|
      .ob (.inr .i64 (.add (.lit 25) (.mul (.lit 9) (.var 0)))) <|
      .ob (.inr .i64 (.add (.add (.lit 25) (.mul (.lit 9) (.var 0))) (.var 1))) <|
      .br (.ilt (.add (.add (.lit 25) (.mul (.lit 9) (.var 0))) (.var 1)) (.lit 0))
      (.call 0 { lo := 0, lob := 0, iv := [(0, (.lit 4))], bk := [(1, { blk := 1 }), (0, { blk := 9 })] } 5 <|
       .br (.ilt (.add (.lit 79) (.var 0)) (.lit 0))
       (.bad 17)
       (.fin { lo := 5, lob := 4, bv := [(5, (.lit true))] }))
      (.fin { lo := 5, lob := 4, bv := [(5, (.lit false))] })))
    (.br (.ilt (.var 1) (.lit 0))
     (.call 0 { lo := 0, lob := 0, iv := [(0, (.lit 4))], bk := [(1, { blk := 1 }), (0, { blk := 6 })] } 5 <|
      .br (.not (.ilt (.var 1) (.lit 9)))
      (.call 0 { lo := 0, lob := 0, iv := [(0, (.lit 4))], bk := [(1, { blk := 1 }), (0, { blk := 9 })] } 5 <|
       .br (.ilt (.add (.lit 79) (.var 0)) (.lit 0))
       (.bad 17)
       (.fin { lo := 5, lob := 4, bv := [(5, (.lit true))] }))
      (.ob (.inr .i64 (.mul (.lit 9) (.var 0))) <|
       .ob (.inr .i64 (.add (.lit 25) (.mul (.lit 9) (.var 0)))) <|
       .ob (.inr .i64 (.add (.add (.lit 25) (.mul (.lit 9) (.var 0))) (.var 1))) <|
       .br (.ilt (.add (.add (.lit 25) (.mul (.lit 9) (.var 0))) (.var 1)) (.lit 0))
       (.call 0 { lo := 0, lob := 0, iv := [(0, (.lit 4))], bk := [(1, { blk := 1 }), (0, { blk := 9 })] } 5 <|
        .br (.ilt (.add (.lit 79) (.var 0)) (.lit 0))
        (.bad 17)
        (.fin { lo := 5, lob := 4, bv := [(5, (.lit true))] }))
       (.fin { lo := 5, lob := 4, bv := [(5, (.lit false))] })))
     (.fin { lo := 5, lob := 4, bv := [(5, (.lit false))] }))))
theorem ex_r30 : exec tab exact_E 3739 [] ex_c30 = ex_p30 := by kernel_rfl
def ex_p29 : Out :=
  .br (.ieq (.var 4) (.lit 24))
  (.br (.not (.and (.ile (.lit 0) (.var 1)) (.ilt (.var 1) (.lit 24))))
   (.call 0 { lo := 0, lob := 0, iv := [(0, (.lit 4))], bk := [(1, { blk := 1 }), (0, { blk := 6 })] } 5 <|
    .br (.not (.and (.ile (.lit 0) (.var 1)) (.ilt (.var 1) (.lit 9))))
    (.call 0 { lo := 0, lob := 0, iv := [(0, (.lit 4))], bk := [(1, { blk := 1 }), (0, { blk := 9 })] } 5 <|
     .br (.ilt (.add (.lit 79) (.var 0)) (.lit 0))
     (.bad 17)
     (.fin { lo := 5, lob := 4, bv := [(5, (.lit true))] }))
    (.ob (.inr .i64 (.mul (.lit 9) (.var 0))) <|
     .ob (.inr .i64 (.add (.lit 25) (.mul (.lit 9) (.var 0)))) <|
     .ob (.inr .i64 (.add (.add (.lit 25) (.mul (.lit 9) (.var 0))) (.var 1))) <|
     .br (.ilt (.add (.add (.lit 25) (.mul (.lit 9) (.var 0))) (.var 1)) (.lit 0))
     (.call 0 { lo := 0, lob := 0, iv := [(0, (.lit 4))], bk := [(1, { blk := 1 }), (0, { blk := 9 })] } 5 <|
      .br (.ilt (.add (.lit 79) (.var 0)) (.lit 0))
      (.bad 17)
      (.fin { lo := 5, lob := 4, bv := [(5, (.lit true))] }))
     (.fin { lo := 5, lob := 4, bv := [(5, (.lit false))] })))
   (.br (.ilt (.var 1) (.lit 0))
    (.call 0 { lo := 0, lob := 0, iv := [(0, (.lit 4))], bk := [(1, { blk := 1 }), (0, { blk := 6 })] } 5 <|
     .br (.not (.ilt (.var 1) (.lit 9)))
     (.call 0 { lo := 0, lob := 0, iv := [(0, (.lit 4))], bk := [(1, { blk := 1 }), (0, { blk := 9 })] } 5 <|
      .br (.ilt (.add (.lit 79) (.var 0)) (.lit 0))
      (.bad 17)
      (.fin { lo := 5, lob := 4, bv := [(5, (.lit true))] }))
     (.ob (.inr .i64 (.mul (.lit 9) (.var 0))) <|
      .ob (.inr .i64 (.add (.lit 25) (.mul (.lit 9) (.var 0)))) <|
      .ob (.inr .i64 (.add (.add (.lit 25) (.mul (.lit 9) (.var 0))) (.var 1))) <|
      .br (.ilt (.add (.add (.lit 25) (.mul (.lit 9) (.var 0))) (.var 1)) (.lit 0))
      (.call 0 { lo := 0, lob := 0, iv := [(0, (.lit 4))], bk := [(1, { blk := 1 }), (0, { blk := 9 })] } 5 <|
       .br (.ilt (.add (.lit 79) (.var 0)) (.lit 0))
       (.bad 17)
       (.fin { lo := 5, lob := 4, bv := [(5, (.lit true))] }))
      (.fin { lo := 5, lob := 4, bv := [(5, (.lit false))] })))
    (.fin { lo := 5, lob := 4, bv := [(5, (.lit false))] })))
  (.br (.ilt (.var 4) (.lit 79))
   (.ob (.inr .i64 (.sub (.var 4) (.lit 25))) <|
    .ob (.inr .i64 (.div (.sub (.var 4) (.lit 25)) (.lit 9))) <|
    .br (.not (.and (.ile (.lit 0) (.var 1)) (.ilt (.var 1) (.lit 24))))
    (.call 0 { lo := 0, lob := 0, iv := [(0, (.lit 4))], bk := [(1, { blk := 1 }), (0, { blk := 6 })] } 5 <|
     .br (.not (.and (.ile (.lit 0) (.var 1)) (.ilt (.var 1) (.lit 9))))
     (.call 0 { lo := 0, lob := 0, iv := [(0, (.lit 4))], bk := [(1, { blk := 1 }), (0, { blk := 9 })] } 5 <|
      .br (.ilt (.add (.lit 79) (.var 0)) (.lit 0))
      (.bad 17)
      (.fin { lo := 5, lob := 4, bv := [(5, (.lit false))] }))
     (.ob (.inr .i64 (.mul (.lit 9) (.var 0))) <|
      .ob (.inr .i64 (.add (.lit 25) (.mul (.lit 9) (.var 0)))) <|
      .ob (.inr .i64 (.add (.add (.lit 25) (.mul (.lit 9) (.var 0))) (.var 1))) <|
      .br (.ilt (.add (.add (.lit 25) (.mul (.lit 9) (.var 0))) (.var 1)) (.lit 0))
      (.call 0 { lo := 0, lob := 0, iv := [(0, (.lit 4))], bk := [(1, { blk := 1 }), (0, { blk := 9 })] } 5 <|
       .br (.ilt (.add (.lit 79) (.var 0)) (.lit 0))
       (.bad 17)
       (.fin { lo := 5, lob := 4, bv := [(5, (.lit false))] }))
      (.fin { lo := 5, lob := 4, bv := [(5, (.lit false))] })))
    (.br (.ilt (.var 1) (.lit 0))
     (.call 0 { lo := 0, lob := 0, iv := [(0, (.lit 4))], bk := [(1, { blk := 1 }), (0, { blk := 6 })] } 5 <|
      .br (.not (.ilt (.var 1) (.lit 9)))
      (.call 0 { lo := 0, lob := 0, iv := [(0, (.lit 4))], bk := [(1, { blk := 1 }), (0, { blk := 9 })] } 5 <|
       .br (.ilt (.add (.lit 79) (.var 0)) (.lit 0))
       (.bad 17)
       (.fin { lo := 5, lob := 4, bv := [(5, (.lit false))] }))
      (.ob (.inr .i64 (.mul (.lit 9) (.var 0))) <|
       .ob (.inr .i64 (.add (.lit 25) (.mul (.lit 9) (.var 0)))) <|
       .ob (.inr .i64 (.add (.add (.lit 25) (.mul (.lit 9) (.var 0))) (.var 1))) <|
       .br (.ilt (.add (.add (.lit 25) (.mul (.lit 9) (.var 0))) (.var 1)) (.lit 0))
       (.call 0 { lo := 0, lob := 0, iv := [(0, (.lit 4))], bk := [(1, { blk := 1 }), (0, { blk := 9 })] } 5 <|
        .br (.ilt (.add (.lit 79) (.var 0)) (.lit 0))
        (.bad 17)
        (.fin { lo := 5, lob := 4, bv := [(5, (.lit false))] }))
       (.fin { lo := 5, lob := 4, bv := [(5, (.lit false))] })))
     (.fin { lo := 5, lob := 4, bv := [(5, (.lit false))] })))
   (.ob (.inr .i64 (.sub (.var 4) (.lit 79))) <|
    .br (.not (.and (.ile (.lit 0) (.var 1)) (.ilt (.var 1) (.lit 24))))
    (.call 0 { lo := 0, lob := 0, iv := [(0, (.lit 4))], bk := [(1, { blk := 1 }), (0, { blk := 6 })] } 5 <|
     .br (.not (.and (.ile (.lit 0) (.var 1)) (.ilt (.var 1) (.lit 9))))
     (.call 0 { lo := 0, lob := 0, iv := [(0, (.lit 4))], bk := [(1, { blk := 1 }), (0, { blk := 9 })] } 5 <|
      .br (.ilt (.add (.lit 79) (.var 0)) (.lit 0))
      (.bad 17)
      (.fin { lo := 5, lob := 4, bv := [(5, (.lit false))] }))
     (.ob (.inr .i64 (.mul (.lit 9) (.var 0))) <|
      .ob (.inr .i64 (.add (.lit 25) (.mul (.lit 9) (.var 0)))) <|
      .ob (.inr .i64 (.add (.add (.lit 25) (.mul (.lit 9) (.var 0))) (.var 1))) <|
      .br (.ilt (.add (.add (.lit 25) (.mul (.lit 9) (.var 0))) (.var 1)) (.lit 0))
      (.call 0 { lo := 0, lob := 0, iv := [(0, (.lit 4))], bk := [(1, { blk := 1 }), (0, { blk := 9 })] } 5 <|
       .br (.ilt (.add (.lit 79) (.var 0)) (.lit 0))
       (.bad 17)
       (.fin { lo := 5, lob := 4, bv := [(5, (.lit false))] }))
      (.fin { lo := 5, lob := 4, bv := [(5, (.lit false))] })))
    (.br (.ilt (.var 1) (.lit 0))
     (.call 0 { lo := 0, lob := 0, iv := [(0, (.lit 4))], bk := [(1, { blk := 1 }), (0, { blk := 6 })] } 5 <|
      .br (.not (.ilt (.var 1) (.lit 9)))
      (.call 0 { lo := 0, lob := 0, iv := [(0, (.lit 4))], bk := [(1, { blk := 1 }), (0, { blk := 9 })] } 5 <|
       .br (.ilt (.add (.lit 79) (.var 0)) (.lit 0))
       (.bad 17)
       (.fin { lo := 5, lob := 4, bv := [(5, (.lit false))] }))
      (.ob (.inr .i64 (.mul (.lit 9) (.var 0))) <|
       .ob (.inr .i64 (.add (.lit 25) (.mul (.lit 9) (.var 0)))) <|
       .ob (.inr .i64 (.add (.add (.lit 25) (.mul (.lit 9) (.var 0))) (.var 1))) <|
       .br (.ilt (.add (.add (.lit 25) (.mul (.lit 9) (.var 0))) (.var 1)) (.lit 0))
       (.call 0 { lo := 0, lob := 0, iv := [(0, (.lit 4))], bk := [(1, { blk := 1 }), (0, { blk := 9 })] } 5 <|
        .br (.ilt (.add (.lit 79) (.var 0)) (.lit 0))
        (.bad 17)
        (.fin { lo := 5, lob := 4, bv := [(5, (.lit false))] }))
       (.fin { lo := 5, lob := 4, bv := [(5, (.lit false))] })))
     (.fin { lo := 5, lob := 4, bv := [(5, (.lit false))] }))))
theorem ex_r29 : exec tab exact_E 3739 [] ex_c29 = ex_p29 := by kernel_rfl
def ex_p28 : Out :=
  .br (.ilt (.var 1) (.lit 0))
  (.call 0 { lo := 0, lob := 0, iv := [(0, (.lit 4))], bk := [(1, { blk := 1 }), (0, { blk := 6 })] } 5 <|
   .br (.not (.ilt (.var 1) (.lit 9)))
   (.call 0 { lo := 0, lob := 0, iv := [(0, (.lit 4))], bk := [(1, { blk := 1 }), (0, { blk := 9 })] } 5 <|
    .br (.ilt (.add (.lit 79) (.var 0)) (.lit 0))
    (.bad 17)
    (.fin { lo := 5, lob := 4, bv := [(5, (.lit true))] }))
   (.ob (.inr .i64 (.mul (.lit 9) (.var 0))) <|
    .ob (.inr .i64 (.add (.lit 25) (.mul (.lit 9) (.var 0)))) <|
    .ob (.inr .i64 (.add (.add (.lit 25) (.mul (.lit 9) (.var 0))) (.var 1))) <|
    .br (.ilt (.add (.add (.lit 25) (.mul (.lit 9) (.var 0))) (.var 1)) (.lit 0))
    (.call 0 { lo := 0, lob := 0, iv := [(0, (.lit 4))], bk := [(1, { blk := 1 }), (0, { blk := 9 })] } 5 <|
     .br (.ilt (.add (.lit 79) (.var 0)) (.lit 0))
     (.bad 17)
     (.fin { lo := 5, lob := 4, bv := [(5, (.lit true))] }))
    (.fin { lo := 5, lob := 4, bv := [(5, (.lit false))] })))
  (.fin { lo := 5, lob := 4, bv := [(5, (.lit false))] })
theorem ex_r28 : exec tab exact_E 3630 [] ex_c28 = ex_p28 := by kernel_rfl
def ex_p27 : Out :=
  .call 0 { lo := 0, lob := 0, iv := [(0, (.lit 4))], bk := [(1, { blk := 1 }), (0, { blk := 6 })] } 5 <|
  .br (.not (.and (.ile (.lit 0) (.var 1)) (.ilt (.var 1) (.lit 9))))
  (.call 0 { lo := 0, lob := 0, iv := [(0, (.lit 4))], bk := [(1, { blk := 1 }), (0, { blk := 9 })] } 5 <|
   .br (.ilt (.add (.lit 79) (.var 0)) (.lit 0))
   (.bad 17)
   (.fin { lo := 5, lob := 4, bv := [(5, (.lit true))] }))
  (.ob (.inr .i64 (.mul (.lit 9) (.var 0))) <|
   .ob (.inr .i64 (.add (.lit 25) (.mul (.lit 9) (.var 0)))) <|
   .ob (.inr .i64 (.add (.add (.lit 25) (.mul (.lit 9) (.var 0))) (.var 1))) <|
   .br (.ilt (.add (.add (.lit 25) (.mul (.lit 9) (.var 0))) (.var 1)) (.lit 0))
   (.call 0 { lo := 0, lob := 0, iv := [(0, (.lit 4))], bk := [(1, { blk := 1 }), (0, { blk := 9 })] } 5 <|
    .br (.ilt (.add (.lit 79) (.var 0)) (.lit 0))
    (.bad 17)
    (.fin { lo := 5, lob := 4, bv := [(5, (.lit true))] }))
   (.fin { lo := 5, lob := 4, bv := [(5, (.lit false))] }))
theorem ex_r27 : exec tab exact_E 3630 [] ex_c27 = ex_p27 := by kernel_rfl
def ex_p26 : Out :=
  .fin { lo := 5, lob := 4, bv := [(5, (.lit false))] }
theorem ex_r26 : exec tab exact_E 3603 [] ex_c26 = ex_p26 := by kernel_rfl
def ex_p25 : Out :=
  .call 0 { lo := 0, lob := 0, iv := [(0, (.lit 4))], bk := [(1, { blk := 1 }), (0, { blk := 6 })] } 5 <|
  .br (.not (.ilt (.var 1) (.lit 9)))
  (.call 0 { lo := 0, lob := 0, iv := [(0, (.lit 4))], bk := [(1, { blk := 1 }), (0, { blk := 9 })] } 5 <|
   .br (.ilt (.add (.lit 79) (.var 0)) (.lit 0))
   (.bad 17)
   (.call 0 { lo := 0, lob := 0, iv := [(0, (.lit 4))], bk := [(1, { blk := 3 }), (0, { blk := 14 })] } 5 <|
    .fin { lo := 5, lob := 4, bv := [(5, (.lit true))] }))
  (.ob (.inr .i64 (.mul (.lit 9) (.var 0))) <|
   .ob (.inr .i64 (.add (.lit 25) (.mul (.lit 9) (.var 0)))) <|
   .ob (.inr .i64 (.add (.add (.lit 25) (.mul (.lit 9) (.var 0))) (.var 1))) <|
   .br (.ilt (.add (.add (.lit 25) (.mul (.lit 9) (.var 0))) (.var 1)) (.lit 0))
   (.call 0 { lo := 0, lob := 0, iv := [(0, (.lit 4))], bk := [(1, { blk := 1 }), (0, { blk := 9 })] } 5 <|
    .br (.ilt (.add (.lit 79) (.var 0)) (.lit 0))
    (.bad 17)
    (.call 0 { lo := 0, lob := 0, iv := [(0, (.lit 4))], bk := [(1, { blk := 3 }), (0, { blk := 14 })] } 5 <|
     .fin { lo := 5, lob := 4, bv := [(5, (.lit true))] }))
   (.fin { lo := 5, lob := 4, bv := [(5, (.lit false))] }))
theorem ex_r25 : exec tab exact_E 3603 [] ex_c25 = ex_p25 := by kernel_rfl
def ex_p24 : Out :=
  .ob (.inr .i64 (.mul (.lit 9) (.var 0))) <|
  .ob (.inr .i64 (.add (.lit 25) (.mul (.lit 9) (.var 0)))) <|
  .ob (.inr .i64 (.add (.add (.lit 25) (.mul (.lit 9) (.var 0))) (.var 1))) <|
  .br (.ilt (.add (.add (.lit 25) (.mul (.lit 9) (.var 0))) (.var 1)) (.lit 0))
  (.call 0 { lo := 0, lob := 0, iv := [(0, (.lit 4))], bk := [(1, { blk := 1 }), (0, { blk := 9 })] } 5 <|
   .br (.ilt (.add (.lit 79) (.var 0)) (.lit 0))
   (.bad 17)
   (.call 0 { lo := 0, lob := 0, iv := [(0, (.lit 4))], bk := [(1, { blk := 3 }), (0, { blk := 14 })] } 5 <|
    .fin { lo := 5, lob := 4, bv := [(5, (.lit true))] }))
  (.fin { lo := 5, lob := 4, bv := [(5, (.lit false))] })
theorem ex_r24 : exec tab exact_E 3535 [] ex_c24 = ex_p24 := by kernel_rfl
def ex_p23 : Out :=
  .call 0 { lo := 0, lob := 0, iv := [(0, (.lit 4))], bk := [(1, { blk := 1 }), (0, { blk := 9 })] } 5 <|
  .br (.ilt (.add (.lit 79) (.var 0)) (.lit 0))
  (.bad 17)
  (.call 0 { lo := 0, lob := 0, iv := [(0, (.lit 4))], bk := [(1, { blk := 3 }), (0, { blk := 14 })] } 5 <|
   .fin { lo := 5, lob := 4, bv := [(5, (.lit true))] })
theorem ex_r23 : exec tab exact_E 3535 [] ex_c23 = ex_p23 := by kernel_rfl
def ex_p22 : Out :=
  .ob (.inr .i64 (.mul (.lit 9) (.var 0))) <|
  .ob (.inr .i64 (.add (.lit 25) (.mul (.lit 9) (.var 0)))) <|
  .ob (.inr .i64 (.add (.add (.lit 25) (.mul (.lit 9) (.var 0))) (.var 1))) <|
  .br (.ilt (.add (.add (.lit 25) (.mul (.lit 9) (.var 0))) (.var 1)) (.lit 0))
  (.call 0 { lo := 0, lob := 0, iv := [(0, (.lit 4))], bk := [(1, { blk := 1 }), (0, { blk := 9 })] } 5 <|
   .br (.ilt (.add (.lit 79) (.var 0)) (.lit 0))
   (.bad 17)
   (.call 0 { lo := 0, lob := 0, iv := [(0, (.lit 4))], bk := [(1, { blk := 3 }), (0, { blk := 14 })] } 5 <|
    .fin { lo := 5, lob := 4, bv := [(5, (.lit true))] }))
  (.fin { lo := 5, lob := 4, bv := [(5, (.lit false))] })
theorem ex_r22 : exec tab exact_E 3533 [] ex_c22 = ex_p22 := by kernel_rfl
def ex_p21 : Out :=
  .call 0 { lo := 0, lob := 0, iv := [(0, (.lit 4))], bk := [(1, { blk := 1 }), (0, { blk := 9 })] } 5 <|
  .br (.ilt (.add (.lit 79) (.var 0)) (.lit 0))
  (.bad 17)
  (.call 0 { lo := 0, lob := 0, iv := [(0, (.lit 4))], bk := [(1, { blk := 3 }), (0, { blk := 14 })] } 5 <|
   .fin { lo := 5, lob := 4, bv := [(5, (.lit true))] })
theorem ex_r21 : exec tab exact_E 3533 [] ex_c21 = ex_p21 := by kernel_rfl
def ex_p20 : Out :=
  .fin { lo := 5, lob := 4, bv := [(5, (.lit false))] }
theorem ex_r20 : exec tab exact_E 3510 [] ex_c20 = ex_p20 := by kernel_rfl
def ex_p19 : Out :=
  .call 0 { lo := 0, lob := 0, iv := [(0, (.lit 4))], bk := [(1, { blk := 1 }), (0, { blk := 9 })] } 5 <|
  .br (.ilt (.add (.lit 79) (.var 0)) (.lit 0))
  (.bad 17)
  (.call 0 { lo := 0, lob := 0, iv := [(0, (.lit 4))], bk := [(1, { blk := 3 }), (0, { blk := 14 })] } 5 <|
   .fin { lo := 5, lob := 4, bv := [(5, (.lit true))] })
theorem ex_r19 : exec tab exact_E 3510 [] ex_c19 = ex_p19 := by kernel_rfl
def ex_p18 : Out :=
  .call 0 { lo := 0, lob := 0, iv := [(0, (.lit 4))], bk := [(1, { blk := 3 }), (0, { blk := 14 })] } 5 <|
  .fin { lo := 5, lob := 4, bv := [(5, (.lit true))] }
theorem ex_r18 : exec tab exact_E 3444 [] ex_c18 = ex_p18 := by kernel_rfl
def ex_p17 : Out :=
  .bad 17
theorem ex_r17 : exec tab exact_E 3444 [] ex_c17 = ex_p17 := by kernel_rfl
def ex_p16 : Out :=
  .br (.not (.ieq (.var 3) (.lit 0)))
  (.br (.not (.and (.ile (.lit 0) (.var 1)) (.ilt (.var 1) (.lit 24))))
   (.bad 17)
   (.br (.not (.ilt (.var 1) (.lit 9)))
    (.bad 17)
    (.ob (.inr .i64 (.mul (.lit 9) (.var 0))) <|
     .ob (.inr .i64 (.add (.lit 25) (.mul (.lit 9) (.var 0)))) <|
     .ob (.inr .i64 (.add (.add (.lit 25) (.mul (.lit 9) (.var 0))) (.var 1))) <|
     .br (.ilt (.add (.add (.lit 25) (.mul (.lit 9) (.var 0))) (.var 1)) (.lit 0))
     (.bad 17)
     (.br (.ieq (.add (.add (.lit 25) (.mul (.var 0) (.lit 9))) (.var 1)) (.add (.add (.lit 25) (.mul (.lit 9) (.var 0))) (.var 1)))
      (.br (.ilt (.add (.lit 79) (.var 0)) (.lit 0))
       (.bad 17)
       (.call 0 { lo := 0, lob := 0, iv := [(0, (.lit 4))], bk := [(1, { blk := 3 }), (0, { blk := 12 })] } 5 <|
        .fin { lo := 5, lob := 4, bv := [(5, (.lit true))] }))
      (.fin { lo := 5, lob := 4, bv := [(5, (.lit false))] })))))
  (.br (.or (.ilt (.var 4) (.lit 0)) (.ile (.lit 85) (.var 4)))
   (.br (.not (.and (.ile (.lit 0) (.var 1)) (.ilt (.var 1) (.lit 24))))
    (.bad 17)
    (.br (.not (.ilt (.var 1) (.lit 9)))
     (.bad 17)
     (.ob (.inr .i64 (.mul (.lit 9) (.var 0))) <|
      .ob (.inr .i64 (.add (.lit 25) (.mul (.lit 9) (.var 0)))) <|
      .ob (.inr .i64 (.add (.add (.lit 25) (.mul (.lit 9) (.var 0))) (.var 1))) <|
      .br (.ilt (.add (.add (.lit 25) (.mul (.lit 9) (.var 0))) (.var 1)) (.lit 0))
      (.bad 17)
      (.br (.ieq (.add (.add (.lit 25) (.mul (.var 0) (.lit 9))) (.var 1)) (.add (.add (.lit 25) (.mul (.lit 9) (.var 0))) (.var 1)))
       (.br (.ilt (.add (.lit 79) (.var 0)) (.lit 0))
        (.bad 17)
        (.call 0 { lo := 0, lob := 0, iv := [(0, (.lit 4))], bk := [(1, { blk := 3 }), (0, { blk := 12 })] } 5 <|
         .fin { lo := 5, lob := 4, bv := [(5, (.lit true))] }))
       (.fin { lo := 5, lob := 4, bv := [(5, (.lit false))] })))))
   (.br (.ilt (.var 4) (.lit 24))
    (.ob (.inr .i64 (.var 4)) <|
     .br (.not (.and (.ile (.lit 0) (.var 1)) (.ilt (.var 1) (.lit 24))))
     (.bad 17)
     (.br (.not (.ilt (.var 1) (.lit 9)))
      (.bad 17)
      (.ob (.inr .i64 (.mul (.lit 9) (.var 0))) <|
       .ob (.inr .i64 (.add (.lit 25) (.mul (.lit 9) (.var 0)))) <|
       .ob (.inr .i64 (.add (.add (.lit 25) (.mul (.lit 9) (.var 0))) (.var 1))) <|
       .br (.ilt (.add (.add (.lit 25) (.mul (.lit 9) (.var 0))) (.var 1)) (.lit 0))
       (.bad 17)
       (.br (.ieq (.add (.add (.lit 25) (.mul (.var 0) (.lit 9))) (.var 1)) (.add (.add (.lit 25) (.mul (.lit 9) (.var 0))) (.var 1)))
        (.br (.ilt (.add (.lit 79) (.var 0)) (.lit 0))
         (.bad 17)
         (.fin { lo := 5, lob := 4, bv := [(5, (.lit true))] }))
        (.fin { lo := 5, lob := 4, bv := [(5, (.lit false))] })))))
    (.br (.ilt (.var 4) (.lit 25))
     (.br (.ieq (.var 4) (.lit 24))
      (.br (.not (.and (.ile (.lit 0) (.var 1)) (.ilt (.var 1) (.lit 24))))
       (.bad 17)
       (.br (.not (.ilt (.var 1) (.lit 9)))
        (.bad 17)
        (.ob (.inr .i64 (.mul (.lit 9) (.var 0))) <|
         .ob (.inr .i64 (.add (.lit 25) (.mul (.lit 9) (.var 0)))) <|
         .ob (.inr .i64 (.add (.add (.lit 25) (.mul (.lit 9) (.var 0))) (.var 1))) <|
         .br (.ilt (.add (.add (.lit 25) (.mul (.lit 9) (.var 0))) (.var 1)) (.lit 0))
         (.bad 17)
         (.br (.ieq (.add (.add (.lit 25) (.mul (.var 0) (.lit 9))) (.var 1)) (.add (.add (.lit 25) (.mul (.lit 9) (.var 0))) (.var 1)))
          (.br (.ilt (.add (.lit 79) (.var 0)) (.lit 0))
           (.bad 17)
           (.fin { lo := 5, lob := 4, bv := [(5, (.lit true))] }))
          (.fin { lo := 5, lob := 4, bv := [(5, (.lit false))] })))))
      (.br (.ilt (.var 4) (.lit 79))
       (.ob (.inr .i64 (.sub (.var 4) (.lit 25))) <|
        .ob (.inr .i64 (.div (.sub (.var 4) (.lit 25)) (.lit 9))) <|
        .br (.not (.and (.ile (.lit 0) (.var 1)) (.ilt (.var 1) (.lit 24))))
        (.bad 17)
        (.br (.not (.ilt (.var 1) (.lit 9)))
         (.bad 17)
         (.ob (.inr .i64 (.mul (.lit 9) (.var 0))) <|
          .ob (.inr .i64 (.add (.lit 25) (.mul (.lit 9) (.var 0)))) <|
          .ob (.inr .i64 (.add (.add (.lit 25) (.mul (.lit 9) (.var 0))) (.var 1))) <|
          .br (.ilt (.add (.add (.lit 25) (.mul (.lit 9) (.var 0))) (.var 1)) (.lit 0))
          (.bad 17)
          (.br (.ieq (.add (.add (.lit 25) (.mul (.var 0) (.lit 9))) (.var 1)) (.add (.add (.lit 25) (.mul (.lit 9) (.var 0))) (.var 1)))
           (.br (.ilt (.add (.lit 79) (.var 0)) (.lit 0))
            (.bad 17)
            (.fin { lo := 5, lob := 4, bv := [(5, (.lit false))] }))
           (.fin { lo := 5, lob := 4, bv := [(5, (.lit false))] })))))
       (.ob (.inr .i64 (.sub (.var 4) (.lit 79))) <|
        .br (.not (.and (.ile (.lit 0) (.var 1)) (.ilt (.var 1) (.lit 24))))
        (.bad 17)
        (.br (.not (.ilt (.var 1) (.lit 9)))
         (.bad 17)
         (.ob (.inr .i64 (.mul (.lit 9) (.var 0))) <|
          .ob (.inr .i64 (.add (.lit 25) (.mul (.lit 9) (.var 0)))) <|
          .ob (.inr .i64 (.add (.add (.lit 25) (.mul (.lit 9) (.var 0))) (.var 1))) <|
          .br (.ilt (.add (.add (.lit 25) (.mul (.lit 9) (.var 0))) (.var 1)) (.lit 0))
          (.bad 17)
          (.br (.ieq (.add (.add (.lit 25) (.mul (.var 0) (.lit 9))) (.var 1)) (.add (.add (.lit 25) (.mul (.lit 9) (.var 0))) (.var 1)))
           (.br (.ilt (.add (.lit 79) (.var 0)) (.lit 0))
            (.bad 17)
            (.fin { lo := 5, lob := 4, bv := [(5, (.lit false))] }))
           (.fin { lo := 5, lob := 4, bv := [(5, (.lit false))] })))))))
     (.br (.ilt (.var 4) (.lit 79))
      (.ob (.inr .i64 (.sub (.var 4) (.lit 25))) <|
       .ob (.inr .i64 (.div (.sub (.var 4) (.lit 25)) (.lit 9))) <|
       .br (.ieq (.var 4) (.lit 24))
       (.br (.not (.and (.ile (.lit 0) (.var 1)) (.ilt (.var 1) (.lit 24))))
        (.bad 17)
        (.br (.not (.ilt (.var 1) (.lit 9)))
         (.bad 17)
         (.ob (.inr .i64 (.mul (.lit 9) (.var 0))) <|
          .ob (.inr .i64 (.add (.lit 25) (.mul (.lit 9) (.var 0)))) <|
          .ob (.inr .i64 (.add (.add (.lit 25) (.mul (.lit 9) (.var 0))) (.var 1))) <|
          .br (.ilt (.add (.add (.lit 25) (.mul (.lit 9) (.var 0))) (.var 1)) (.lit 0))
          (.bad 17)
          (.br (.ieq (.add (.add (.lit 25) (.mul (.var 0) (.lit 9))) (.var 1)) (.add (.add (.lit 25) (.mul (.lit 9) (.var 0))) (.var 1)))
           (.br (.ilt (.add (.lit 79) (.var 0)) (.lit 0))
            (.bad 17)
            (.fin { lo := 5, lob := 4, bv := [(5, (.lit false))] }))
           (.fin { lo := 5, lob := 4, bv := [(5, (.lit false))] })))))
       (.br (.not (.and (.ile (.lit 0) (.var 1)) (.ilt (.var 1) (.lit 24))))
        (.bad 17)
        (.br (.not (.ilt (.var 1) (.lit 9)))
         (.bad 17)
         (.ob (.inr .i64 (.mul (.lit 9) (.var 0))) <|
          .ob (.inr .i64 (.add (.lit 25) (.mul (.lit 9) (.var 0)))) <|
          .ob (.inr .i64 (.add (.add (.lit 25) (.mul (.lit 9) (.var 0))) (.var 1))) <|
          .br (.ilt (.add (.add (.lit 25) (.mul (.lit 9) (.var 0))) (.var 1)) (.lit 0))
          (.bad 17)
          (.br (.ieq (.add (.add (.lit 25) (.mul (.var 0) (.lit 9))) (.var 1)) (.add (.add (.lit 25) (.mul (.lit 9) (.var 0))) (.var 1)))
           (.br (.ilt (.add (.lit 79) (.var 0)) (.lit 0))
            (.bad 17)
            (.fin { lo := 5, lob := 4, bv := [(5, (.lit true))] }))
           (.fin { lo := 5, lob := 4, bv := [(5, (.lit false))] }))))))
      (.ob (.inr .i64 (.sub (.var 4) (.lit 79))) <|
       .br (.ieq (.var 4) (.lit 24))
       (.br (.not (.and (.ile (.lit 0) (.var 1)) (.ilt (.var 1) (.lit 24))))
        (.bad 17)
        (.br (.not (.ilt (.var 1) (.lit 9)))
         (.bad 17)
         (.ob (.inr .i64 (.mul (.lit 9) (.var 0))) <|
          .ob (.inr .i64 (.add (.lit 25) (.mul (.lit 9) (.var 0)))) <|
          .ob (.inr .i64 (.add (.add (.lit 25) (.mul (.lit 9) (.var 0))) (.var 1))) <|
          .br (.ilt (.add (.add (.lit 25) (.mul (.lit 9) (.var 0))) (.var 1)) (.lit 0))
          (.bad 17)
          (.br (.ieq (.add (.add (.lit 25) (.mul (.var 0) (.lit 9))) (.var 1)) (.add (.add (.lit 25) (.mul (.lit 9) (.var 0))) (.var 1)))
           (.br (.ilt (.add (.lit 79) (.var 0)) (.lit 0))
            (.bad 17)
            (.fin { lo := 5, lob := 4, bv := [(5, (.lit false))] }))
           (.fin { lo := 5, lob := 4, bv := [(5, (.lit false))] })))))
       (.br (.not (.and (.ile (.lit 0) (.var 1)) (.ilt (.var 1) (.lit 24))))
        (.bad 17)
        (.br (.not (.ilt (.var 1) (.lit 9)))
         (.bad 17)
         (.ob (.inr .i64 (.mul (.lit 9) (.var 0))) <|
          .ob (.inr .i64 (.add (.lit 25) (.mul (.lit 9) (.var 0)))) <|
          .ob (.inr .i64 (.add (.add (.lit 25) (.mul (.lit 9) (.var 0))) (.var 1))) <|
          .br (.ilt (.add (.add (.lit 25) (.mul (.lit 9) (.var 0))) (.var 1)) (.lit 0))
          (.bad 17)
          (.br (.ieq (.add (.add (.lit 25) (.mul (.var 0) (.lit 9))) (.var 1)) (.add (.add (.lit 25) (.mul (.lit 9) (.var 0))) (.var 1)))
           (.br (.ilt (.add (.lit 79) (.var 0)) (.lit 0))
            (.bad 17)
            (.fin { lo := 5, lob := 4, bv := [(5, (.lit true))] }))
           (.fin { lo := 5, lob := 4, bv := [(5, (.lit false))] }))))))))))
theorem ex_r16 : exec tab exact_E 3807 [] ex_c16 = ex_p16 := by kernel_rfl
def ex_p15 : Out :=
  .br (.not (.and (.ile (.lit 0) (.var 1)) (.ilt (.var 1) (.lit 24))))
  (.bad 17)
  (.br (.not (.ilt (.var 1) (.lit 9)))
   (.bad 17)
   (.ob (.inr .i64 (.mul (.lit 9) (.var 0))) <|
    .ob (.inr .i64 (.add (.lit 25) (.mul (.lit 9) (.var 0)))) <|
    .ob (.inr .i64 (.add (.add (.lit 25) (.mul (.lit 9) (.var 0))) (.var 1))) <|
    .br (.ilt (.add (.add (.lit 25) (.mul (.lit 9) (.var 0))) (.var 1)) (.lit 0))
    (.bad 17)
    (.br (.ieq (.add (.add (.lit 25) (.mul (.var 0) (.lit 9))) (.var 1)) (.add (.add (.lit 25) (.mul (.lit 9) (.var 0))) (.var 1)))
     (.br (.ilt (.add (.lit 79) (.var 0)) (.lit 0))
      (.bad 17)
      (.call 0 { lo := 0, lob := 0, iv := [(0, (.lit 4))], bk := [(1, { blk := 3 }), (0, { blk := 12 })] } 5 <|
       .fin { lo := 5, lob := 4, bv := [(5, (.lit true))] }))
     (.fin { lo := 5, lob := 4, bv := [(5, (.lit false))] }))))
theorem ex_r15 : exec tab exact_E 3807 [] ex_c15 = ex_p15 := by kernel_rfl
def ex_p14 : Out :=
  .br (.not (.ieq (.var 3) (.lit 0)))
  (.br (.not (.and (.ile (.lit 0) (.var 1)) (.ilt (.var 1) (.lit 24))))
   (.bad 17)
   (.br (.not (.ilt (.var 1) (.lit 9)))
    (.call 0 { lo := 0, lob := 0, iv := [(0, (.lit 4))], bk := [(1, { blk := 1 }), (0, { blk := 8 })] } 5 <|
     .br (.ilt (.add (.lit 79) (.var 0)) (.lit 0))
     (.bad 17)
     (.call 0 { lo := 0, lob := 0, iv := [(0, (.lit 4))], bk := [(1, { blk := 3 }), (0, { blk := 13 })] } 5 <|
      .fin { lo := 5, lob := 4, bv := [(5, (.lit true))] }))
    (.ob (.inr .i64 (.mul (.lit 9) (.var 0))) <|
     .ob (.inr .i64 (.add (.lit 25) (.mul (.lit 9) (.var 0)))) <|
     .ob (.inr .i64 (.add (.add (.lit 25) (.mul (.lit 9) (.var 0))) (.var 1))) <|
     .br (.ilt (.add (.add (.lit 25) (.mul (.lit 9) (.var 0))) (.var 1)) (.lit 0))
     (.call 0 { lo := 0, lob := 0, iv := [(0, (.lit 4))], bk := [(1, { blk := 1 }), (0, { blk := 8 })] } 5 <|
      .br (.ilt (.add (.lit 79) (.var 0)) (.lit 0))
      (.bad 17)
      (.call 0 { lo := 0, lob := 0, iv := [(0, (.lit 4))], bk := [(1, { blk := 3 }), (0, { blk := 13 })] } 5 <|
       .fin { lo := 5, lob := 4, bv := [(5, (.lit true))] }))
     (.fin { lo := 5, lob := 4, bv := [(5, (.lit false))] }))))
  (.br (.or (.ilt (.var 4) (.lit 0)) (.ile (.lit 85) (.var 4)))
   (.br (.not (.and (.ile (.lit 0) (.var 1)) (.ilt (.var 1) (.lit 24))))
    (.bad 17)
    (.br (.not (.ilt (.var 1) (.lit 9)))
     (.call 0 { lo := 0, lob := 0, iv := [(0, (.lit 4))], bk := [(1, { blk := 1 }), (0, { blk := 8 })] } 5 <|
      .br (.ilt (.add (.lit 79) (.var 0)) (.lit 0))
      (.bad 17)
      (.call 0 { lo := 0, lob := 0, iv := [(0, (.lit 4))], bk := [(1, { blk := 3 }), (0, { blk := 13 })] } 5 <|
       .fin { lo := 5, lob := 4, bv := [(5, (.lit true))] }))
     (.ob (.inr .i64 (.mul (.lit 9) (.var 0))) <|
      .ob (.inr .i64 (.add (.lit 25) (.mul (.lit 9) (.var 0)))) <|
      .ob (.inr .i64 (.add (.add (.lit 25) (.mul (.lit 9) (.var 0))) (.var 1))) <|
      .br (.ilt (.add (.add (.lit 25) (.mul (.lit 9) (.var 0))) (.var 1)) (.lit 0))
      (.call 0 { lo := 0, lob := 0, iv := [(0, (.lit 4))], bk := [(1, { blk := 1 }), (0, { blk := 8 })] } 5 <|
       .br (.ilt (.add (.lit 79) (.var 0)) (.lit 0))
       (.bad 17)
       (.call 0 { lo := 0, lob := 0, iv := [(0, (.lit 4))], bk := [(1, { blk := 3 }), (0, { blk := 13 })] } 5 <|
        .fin { lo := 5, lob := 4, bv := [(5, (.lit true))] }))
      (.fin { lo := 5, lob := 4, bv := [(5, (.lit false))] }))))
   (.br (.ilt (.var 4) (.lit 24))
    (.ob (.inr .i64 (.var 4)) <|
     .br (.not (.and (.ile (.lit 0) (.var 1)) (.ilt (.var 1) (.lit 24))))
     (.bad 17)
     (.br (.not (.ilt (.var 1) (.lit 9)))
      (.call 0 { lo := 0, lob := 0, iv := [(0, (.lit 4))], bk := [(1, { blk := 1 }), (0, { blk := 8 })] } 5 <|
       .br (.ilt (.add (.lit 79) (.var 0)) (.lit 0))
       (.bad 17)
       (.fin { lo := 5, lob := 4, bv := [(5, (.lit true))] }))
      (.ob (.inr .i64 (.mul (.lit 9) (.var 0))) <|
       .ob (.inr .i64 (.add (.lit 25) (.mul (.lit 9) (.var 0)))) <|
       .ob (.inr .i64 (.add (.add (.lit 25) (.mul (.lit 9) (.var 0))) (.var 1))) <|
       .br (.ilt (.add (.add (.lit 25) (.mul (.lit 9) (.var 0))) (.var 1)) (.lit 0))
       (.call 0 { lo := 0, lob := 0, iv := [(0, (.lit 4))], bk := [(1, { blk := 1 }), (0, { blk := 8 })] } 5 <|
        .br (.ilt (.add (.lit 79) (.var 0)) (.lit 0))
        (.bad 17)
        (.fin { lo := 5, lob := 4, bv := [(5, (.lit true))] }))
       (.fin { lo := 5, lob := 4, bv := [(5, (.lit false))] }))))
    (.br (.ilt (.var 4) (.lit 25))
     (.br (.ieq (.var 4) (.lit 24))
      (.br (.not (.and (.ile (.lit 0) (.var 1)) (.ilt (.var 1) (.lit 24))))
       (.bad 17)
       (.br (.not (.ilt (.var 1) (.lit 9)))
        (.call 0 { lo := 0, lob := 0, iv := [(0, (.lit 4))], bk := [(1, { blk := 1 }), (0, { blk := 8 })] } 5 <|
         .br (.ilt (.add (.lit 79) (.var 0)) (.lit 0))
         (.bad 17)
         (.fin { lo := 5, lob := 4, bv := [(5, (.lit true))] }))
        (.ob (.inr .i64 (.mul (.lit 9) (.var 0))) <|
         .ob (.inr .i64 (.add (.lit 25) (.mul (.lit 9) (.var 0)))) <|
         .ob (.inr .i64 (.add (.add (.lit 25) (.mul (.lit 9) (.var 0))) (.var 1))) <|
         .br (.ilt (.add (.add (.lit 25) (.mul (.lit 9) (.var 0))) (.var 1)) (.lit 0))
         (.call 0 { lo := 0, lob := 0, iv := [(0, (.lit 4))], bk := [(1, { blk := 1 }), (0, { blk := 8 })] } 5 <|
          .br (.ilt (.add (.lit 79) (.var 0)) (.lit 0))
          (.bad 17)
          (.fin { lo := 5, lob := 4, bv := [(5, (.lit true))] }))
         (.fin { lo := 5, lob := 4, bv := [(5, (.lit false))] }))))
      (.br (.ilt (.var 4) (.lit 79))
       (.ob (.inr .i64 (.sub (.var 4) (.lit 25))) <|
        .ob (.inr .i64 (.div (.sub (.var 4) (.lit 25)) (.lit 9))) <|
        .br (.not (.and (.ile (.lit 0) (.var 1)) (.ilt (.var 1) (.lit 24))))
        (.bad 17)
        (.br (.not (.ilt (.var 1) (.lit 9)))
         (.call 0 { lo := 0, lob := 0, iv := [(0, (.lit 4))], bk := [(1, { blk := 1 }), (0, { blk := 8 })] } 5 <|
          .br (.ilt (.add (.lit 79) (.var 0)) (.lit 0))
          (.bad 17)
          (.fin { lo := 5, lob := 4, bv := [(5, (.lit false))] }))
         (.ob (.inr .i64 (.mul (.lit 9) (.var 0))) <|
          .ob (.inr .i64 (.add (.lit 25) (.mul (.lit 9) (.var 0)))) <|
          .ob (.inr .i64 (.add (.add (.lit 25) (.mul (.lit 9) (.var 0))) (.var 1))) <|
          .br (.ilt (.add (.add (.lit 25) (.mul (.lit 9) (.var 0))) (.var 1)) (.lit 0))
          (.call 0 { lo := 0, lob := 0, iv := [(0, (.lit 4))], bk := [(1, { blk := 1 }), (0, { blk := 8 })] } 5 <|
           .br (.ilt (.add (.lit 79) (.var 0)) (.lit 0))
           (.bad 17)
           (.fin { lo := 5, lob := 4, bv := [(5, (.lit false))] }))
          (.fin { lo := 5, lob := 4, bv := [(5, (.lit false))] }))))
       (.ob (.inr .i64 (.sub (.var 4) (.lit 79))) <|
        .br (.not (.and (.ile (.lit 0) (.var 1)) (.ilt (.var 1) (.lit 24))))
        (.bad 17)
        (.br (.not (.ilt (.var 1) (.lit 9)))
         (.call 0 { lo := 0, lob := 0, iv := [(0, (.lit 4))], bk := [(1, { blk := 1 }), (0, { blk := 8 })] } 5 <|
          .br (.ilt (.add (.lit 79) (.var 0)) (.lit 0))
          (.bad 17)
          (.fin { lo := 5, lob := 4, bv := [(5, (.lit false))] }))
         (.ob (.inr .i64 (.mul (.lit 9) (.var 0))) <|
          .ob (.inr .i64 (.add (.lit 25) (.mul (.lit 9) (.var 0)))) <|
          .ob (.inr .i64 (.add (.add (.lit 25) (.mul (.lit 9) (.var 0))) (.var 1))) <|
          .br (.ilt (.add (.add (.lit 25) (.mul (.lit 9) (.var 0))) (.var 1)) (.lit 0))
          (.call 0 { lo := 0, lob := 0, iv := [(0, (.lit 4))], bk := [(1, { blk := 1 }), (0, { blk := 8 })] } 5 <|
           .br (.ilt (.add (.lit 79) (.var 0)) (.lit 0))
           (.bad 17)
           (.fin { lo := 5, lob := 4, bv := [(5, (.lit false))] }))
          (.fin { lo := 5, lob := 4, bv := [(5, (.lit false))] }))))))
     (.br (.ilt (.var 4) (.lit 79))
      (.ob (.inr .i64 (.sub (.var 4) (.lit 25))) <|
       .ob (.inr .i64 (.div (.sub (.var 4) (.lit 25)) (.lit 9))) <|
       .br (.ieq (.var 4) (.lit 24))
       (.br (.not (.and (.ile (.lit 0) (.var 1)) (.ilt (.var 1) (.lit 24))))
        (.bad 17)
        (.br (.not (.ilt (.var 1) (.lit 9)))
         (.call 0 { lo := 0, lob := 0, iv := [(0, (.lit 4))], bk := [(1, { blk := 1 }), (0, { blk := 8 })] } 5 <|
          .br (.ilt (.add (.lit 79) (.var 0)) (.lit 0))
          (.bad 17)
          (.fin { lo := 5, lob := 4, bv := [(5, (.lit false))] }))
         (.ob (.inr .i64 (.mul (.lit 9) (.var 0))) <|
          .ob (.inr .i64 (.add (.lit 25) (.mul (.lit 9) (.var 0)))) <|
          .ob (.inr .i64 (.add (.add (.lit 25) (.mul (.lit 9) (.var 0))) (.var 1))) <|
          .br (.ilt (.add (.add (.lit 25) (.mul (.lit 9) (.var 0))) (.var 1)) (.lit 0))
          (.call 0 { lo := 0, lob := 0, iv := [(0, (.lit 4))], bk := [(1, { blk := 1 }), (0, { blk := 8 })] } 5 <|
           .br (.ilt (.add (.lit 79) (.var 0)) (.lit 0))
           (.bad 17)
           (.fin { lo := 5, lob := 4, bv := [(5, (.lit false))] }))
          (.fin { lo := 5, lob := 4, bv := [(5, (.lit false))] }))))
       (.br (.not (.and (.ile (.lit 0) (.var 1)) (.ilt (.var 1) (.lit 24))))
        (.bad 17)
        (.br (.not (.ilt (.var 1) (.lit 9)))
         (.call 0 { lo := 0, lob := 0, iv := [(0, (.lit 4))], bk := [(1, { blk := 1 }), (0, { blk := 8 })] } 5 <|
          .br (.ilt (.add (.lit 79) (.var 0)) (.lit 0))
          (.bad 17)
          (.fin { lo := 5, lob := 4, bv := [(5, (.lit true))] }))
         (.ob (.inr .i64 (.mul (.lit 9) (.var 0))) <|
          .ob (.inr .i64 (.add (.lit 25) (.mul (.lit 9) (.var 0)))) <|
          .ob (.inr .i64 (.add (.add (.lit 25) (.mul (.lit 9) (.var 0))) (.var 1))) <|
          .br (.ilt (.add (.add (.lit 25) (.mul (.lit 9) (.var 0))) (.var 1)) (.lit 0))
          (.call 0 { lo := 0, lob := 0, iv := [(0, (.lit 4))], bk := [(1, { blk := 1 }), (0, { blk := 8 })] } 5 <|
           .br (.ilt (.add (.lit 79) (.var 0)) (.lit 0))
           (.bad 17)
           (.fin { lo := 5, lob := 4, bv := [(5, (.lit true))] }))
          (.fin { lo := 5, lob := 4, bv := [(5, (.lit false))] })))))
      (.ob (.inr .i64 (.sub (.var 4) (.lit 79))) <|
       .br (.ieq (.var 4) (.lit 24))
       (.br (.not (.and (.ile (.lit 0) (.var 1)) (.ilt (.var 1) (.lit 24))))
        (.bad 17)
        (.br (.not (.ilt (.var 1) (.lit 9)))
         (.call 0 { lo := 0, lob := 0, iv := [(0, (.lit 4))], bk := [(1, { blk := 1 }), (0, { blk := 8 })] } 5 <|
          .br (.ilt (.add (.lit 79) (.var 0)) (.lit 0))
          (.bad 17)
          (.fin { lo := 5, lob := 4, bv := [(5, (.lit false))] }))
         (.ob (.inr .i64 (.mul (.lit 9) (.var 0))) <|
          .ob (.inr .i64 (.add (.lit 25) (.mul (.lit 9) (.var 0)))) <|
          .ob (.inr .i64 (.add (.add (.lit 25) (.mul (.lit 9) (.var 0))) (.var 1))) <|
          .br (.ilt (.add (.add (.lit 25) (.mul (.lit 9) (.var 0))) (.var 1)) (.lit 0))
          (.call 0 { lo := 0, lob := 0, iv := [(0, (.lit 4))], bk := [(1, { blk := 1 }), (0, { blk := 8 })] } 5 <|
           .br (.ilt (.add (.lit 79) (.var 0)) (.lit 0))
           (.bad 17)
           (.fin { lo := 5, lob := 4, bv := [(5, (.lit false))] }))
          (.fin { lo := 5, lob := 4, bv := [(5, (.lit false))] }))))
       (.br (.not (.and (.ile (.lit 0) (.var 1)) (.ilt (.var 1) (.lit 24))))
        (.bad 17)
        (.br (.not (.ilt (.var 1) (.lit 9)))
         (.call 0 { lo := 0, lob := 0, iv := [(0, (.lit 4))], bk := [(1, { blk := 1 }), (0, { blk := 8 })] } 5 <|
          .br (.ilt (.add (.lit 79) (.var 0)) (.lit 0))
          (.bad 17)
          (.fin { lo := 5, lob := 4, bv := [(5, (.lit true))] }))
         (.ob (.inr .i64 (.mul (.lit 9) (.var 0))) <|
          .ob (.inr .i64 (.add (.lit 25) (.mul (.lit 9) (.var 0)))) <|
          .ob (.inr .i64 (.add (.add (.lit 25) (.mul (.lit 9) (.var 0))) (.var 1))) <|
          .br (.ilt (.add (.add (.lit 25) (.mul (.lit 9) (.var 0))) (.var 1)) (.lit 0))
          (.call 0 { lo := 0, lob := 0, iv := [(0, (.lit 4))], bk := [(1, { blk := 1 }), (0, { blk := 8 })] } 5 <|
           .br (.ilt (.add (.lit 79) (.var 0)) (.lit 0))
           (.bad 17)
           (.fin { lo := 5, lob := 4, bv := [(5, (.lit true))] }))
          (.fin { lo := 5, lob := 4, bv := [(5, (.lit false))] })))))))))
theorem ex_r14 : exec tab exact_E 3789 [] ex_c14 = ex_p14 := by kernel_rfl
def ex_p13 : Out :=
  .br (.not (.and (.ile (.lit 0) (.var 1)) (.ilt (.var 1) (.lit 24))))
  (.bad 17)
  (.br (.not (.ilt (.var 1) (.lit 9)))
   (.call 0 { lo := 0, lob := 0, iv := [(0, (.lit 4))], bk := [(1, { blk := 1 }), (0, { blk := 8 })] } 5 <|
    .br (.ilt (.add (.lit 79) (.var 0)) (.lit 0))
    (.bad 17)
    (.call 0 { lo := 0, lob := 0, iv := [(0, (.lit 4))], bk := [(1, { blk := 3 }), (0, { blk := 13 })] } 5 <|
     .fin { lo := 5, lob := 4, bv := [(5, (.lit true))] }))
   (.ob (.inr .i64 (.mul (.lit 9) (.var 0))) <|
    .ob (.inr .i64 (.add (.lit 25) (.mul (.lit 9) (.var 0)))) <|
    .ob (.inr .i64 (.add (.add (.lit 25) (.mul (.lit 9) (.var 0))) (.var 1))) <|
    .br (.ilt (.add (.add (.lit 25) (.mul (.lit 9) (.var 0))) (.var 1)) (.lit 0))
    (.call 0 { lo := 0, lob := 0, iv := [(0, (.lit 4))], bk := [(1, { blk := 1 }), (0, { blk := 8 })] } 5 <|
     .br (.ilt (.add (.lit 79) (.var 0)) (.lit 0))
     (.bad 17)
     (.call 0 { lo := 0, lob := 0, iv := [(0, (.lit 4))], bk := [(1, { blk := 3 }), (0, { blk := 13 })] } 5 <|
      .fin { lo := 5, lob := 4, bv := [(5, (.lit true))] }))
    (.fin { lo := 5, lob := 4, bv := [(5, (.lit false))] })))
theorem ex_r13 : exec tab exact_E 3789 [] ex_c13 = ex_p13 := by kernel_rfl
def ex_p12 : Out :=
  .br (.or (.ilt (.var 4) (.lit 0)) (.ile (.lit 85) (.var 4)))
  (.br (.not (.and (.ile (.lit 0) (.var 1)) (.ilt (.var 1) (.lit 24))))
   (.bad 17)
   (.call 0 { lo := 0, lob := 0, iv := [(0, (.lit 4))], bk := [(1, { blk := 1 }), (0, { blk := 8 })] } 5 <|
    .call 0 { lo := 0, lob := 0, iv := [(0, (.lit 4))], bk := [(1, { blk := 1 }), (0, { blk := 11 })] } 5 <|
    .call 0 { lo := 0, lob := 0, iv := [(0, (.lit 4))], bk := [(1, { blk := 3 }), (0, { blk := 14 })] } 5 <|
    .fin { lo := 5, lob := 4, bv := [(5, (.lit true))] }))
  (.br (.ilt (.var 4) (.lit 24))
   (.ob (.inr .i64 (.var 4)) <|
    .br (.not (.and (.ile (.lit 0) (.var 1)) (.ilt (.var 1) (.lit 24))))
    (.bad 17)
    (.call 0 { lo := 0, lob := 0, iv := [(0, (.lit 4))], bk := [(1, { blk := 1 }), (0, { blk := 8 })] } 5 <|
     .call 0 { lo := 0, lob := 0, iv := [(0, (.lit 4))], bk := [(1, { blk := 1 }), (0, { blk := 11 })] } 5 <|
     .fin { lo := 5, lob := 4, bv := [(5, (.lit true))] }))
   (.br (.ilt (.var 4) (.lit 25))
    (.br (.ieq (.var 4) (.lit 24))
     (.br (.not (.and (.ile (.lit 0) (.var 1)) (.ilt (.var 1) (.lit 24))))
      (.bad 17)
      (.call 0 { lo := 0, lob := 0, iv := [(0, (.lit 4))], bk := [(1, { blk := 1 }), (0, { blk := 8 })] } 5 <|
       .call 0 { lo := 0, lob := 0, iv := [(0, (.lit 4))], bk := [(1, { blk := 1 }), (0, { blk := 11 })] } 5 <|
       .fin { lo := 5, lob := 4, bv := [(5, (.lit true))] }))
     (.br (.ilt (.var 4) (.lit 79))
      (.ob (.inr .i64 (.sub (.var 4) (.lit 25))) <|
       .ob (.inr .i64 (.div (.sub (.var 4) (.lit 25)) (.lit 9))) <|
       .br (.not (.and (.ile (.lit 0) (.var 1)) (.ilt (.var 1) (.lit 24))))
       (.bad 17)
       (.call 0 { lo := 0, lob := 0, iv := [(0, (.lit 4))], bk := [(1, { blk := 1 }), (0, { blk := 8 })] } 5 <|
        .call 0 { lo := 0, lob := 0, iv := [(0, (.lit 4))], bk := [(1, { blk := 1 }), (0, { blk := 11 })] } 5 <|
        .fin { lo := 5, lob := 4, bv := [(5, (.lit false))] }))
      (.ob (.inr .i64 (.sub (.var 4) (.lit 79))) <|
       .br (.not (.and (.ile (.lit 0) (.var 1)) (.ilt (.var 1) (.lit 24))))
       (.bad 17)
       (.call 0 { lo := 0, lob := 0, iv := [(0, (.lit 4))], bk := [(1, { blk := 1 }), (0, { blk := 8 })] } 5 <|
        .call 0 { lo := 0, lob := 0, iv := [(0, (.lit 4))], bk := [(1, { blk := 1 }), (0, { blk := 11 })] } 5 <|
        .fin { lo := 5, lob := 4, bv := [(5, (.lit false))] }))))
    (.br (.ilt (.var 4) (.lit 79))
     (.ob (.inr .i64 (.sub (.var 4) (.lit 25))) <|
      .ob (.inr .i64 (.div (.sub (.var 4) (.lit 25)) (.lit 9))) <|
      .br (.ieq (.var 4) (.lit 24))
      (.br (.not (.and (.ile (.lit 0) (.var 1)) (.ilt (.var 1) (.lit 24))))
       (.bad 17)
       (.call 0 { lo := 0, lob := 0, iv := [(0, (.lit 4))], bk := [(1, { blk := 1 }), (0, { blk := 8 })] } 5 <|
        .call 0 { lo := 0, lob := 0, iv := [(0, (.lit 4))], bk := [(1, { blk := 1 }), (0, { blk := 11 })] } 5 <|
        .fin { lo := 5, lob := 4, bv := [(5, (.lit false))] }))
      (.br (.not (.and (.ile (.lit 0) (.var 1)) (.ilt (.var 1) (.lit 24))))
       (.bad 17)
       (.call 0 { lo := 0, lob := 0, iv := [(0, (.lit 4))], bk := [(1, { blk := 1 }), (0, { blk := 8 })] } 5 <|
        .call 0 { lo := 0, lob := 0, iv := [(0, (.lit 4))], bk := [(1, { blk := 1 }), (0, { blk := 11 })] } 5 <|
        .fin { lo := 5, lob := 4, bv := [(5, (.lit true))] })))
     (.ob (.inr .i64 (.sub (.var 4) (.lit 79))) <|
      .br (.ieq (.var 4) (.lit 24))
      (.br (.not (.and (.ile (.lit 0) (.var 1)) (.ilt (.var 1) (.lit 24))))
       (.bad 17)
       (.call 0 { lo := 0, lob := 0, iv := [(0, (.lit 4))], bk := [(1, { blk := 1 }), (0, { blk := 8 })] } 5 <|
        .call 0 { lo := 0, lob := 0, iv := [(0, (.lit 4))], bk := [(1, { blk := 1 }), (0, { blk := 11 })] } 5 <|
        .fin { lo := 5, lob := 4, bv := [(5, (.lit false))] }))
      (.br (.not (.and (.ile (.lit 0) (.var 1)) (.ilt (.var 1) (.lit 24))))
       (.bad 17)
       (.call 0 { lo := 0, lob := 0, iv := [(0, (.lit 4))], bk := [(1, { blk := 1 }), (0, { blk := 8 })] } 5 <|
        .call 0 { lo := 0, lob := 0, iv := [(0, (.lit 4))], bk := [(1, { blk := 1 }), (0, { blk := 11 })] } 5 <|
        .fin { lo := 5, lob := 4, bv := [(5, (.lit true))] }))))))
theorem ex_r12 : exec tab exact_E 3764 [] ex_c12 = ex_p12 := by kernel_rfl
def ex_p11 : Out :=
  .br (.not (.and (.ile (.lit 0) (.var 1)) (.ilt (.var 1) (.lit 24))))
  (.bad 17)
  (.call 0 { lo := 0, lob := 0, iv := [(0, (.lit 4))], bk := [(1, { blk := 1 }), (0, { blk := 8 })] } 5 <|
   .call 0 { lo := 0, lob := 0, iv := [(0, (.lit 4))], bk := [(1, { blk := 1 }), (0, { blk := 11 })] } 5 <|
   .call 0 { lo := 0, lob := 0, iv := [(0, (.lit 4))], bk := [(1, { blk := 3 }), (0, { blk := 14 })] } 5 <|
   .fin { lo := 5, lob := 4, bv := [(5, (.lit true))] })
theorem ex_r11 : exec tab exact_E 3764 [] ex_c11 = ex_p11 := by kernel_rfl
def ex_p10 : Out :=
  .call 0 { lo := 0, lob := 0, iv := [(0, (.lit 4))], bk := [(1, { blk := 1 }), (0, { blk := 8 })] } 5 <|
  .call 0 { lo := 0, lob := 0, iv := [(0, (.lit 4))], bk := [(1, { blk := 1 }), (0, { blk := 11 })] } 5 <|
  .call 0 { lo := 0, lob := 0, iv := [(0, (.lit 4))], bk := [(1, { blk := 3 }), (0, { blk := 14 })] } 5 <|
  .fin { lo := 5, lob := 4, bv := [(5, (.lit true))] }
theorem ex_r10 : exec tab exact_E 3628 [] ex_c10 = ex_p10 := by kernel_rfl
def ex_p9 : Out :=
  .bad 17
theorem ex_r9 : exec tab exact_E 3628 [] ex_c9 = ex_p9 := by kernel_rfl
def ex_p8 : Out :=
  .br (.not (.ieq (.var 3) (.lit 0)))
  (.br (.not (.and (.ile (.lit 0) (.var 1)) (.ilt (.var 1) (.lit 24))))
   (.call 0 { lo := 0, lob := 0, iv := [(0, (.lit 4))], bk := [(1, { blk := 1 }), (0, { blk := 6 })] } 5 <|
    .br (.not (.and (.ile (.lit 0) (.var 1)) (.ilt (.var 1) (.lit 9))))
    (.bad 17)
    (.ob (.inr .i64 (.mul (.lit 9) (.var 0))) <|
     .ob (.inr .i64 (.add (.lit 25) (.mul (.lit 9) (.var 0)))) <|
     .ob (.inr .i64 (.add (.add (.lit 25) (.mul (.lit 9) (.var 0))) (.var 1))) <|
     .br (.ilt (.add (.add (.lit 25) (.mul (.lit 9) (.var 0))) (.var 1)) (.lit 0))
     (.bad 17)
     (.br (.ieq (.add (.add (.lit 25) (.mul (.var 0) (.lit 9))) (.var 1)) (.add (.add (.lit 25) (.mul (.lit 9) (.var 0))) (.var 1)))
      (.br (.ilt (.add (.lit 79) (.var 0)) (.lit 0))
       (.bad 17)
       (.call 0 { lo := 0, lob := 0, iv := [(0, (.lit 4))], bk := [(1, { blk := 3 }), (0, { blk := 13 })] } 5 <|
        .fin { lo := 5, lob := 4, bv := [(5, (.lit true))] }))
      (.fin { lo := 5, lob := 4, bv := [(5, (.lit false))] }))))
   (.fin { lo := 5, lob := 4, bv := [(5, (.lit false))] }))
  (.br (.or (.ilt (.var 4) (.lit 0)) (.ile (.lit 85) (.var 4)))
   (.br (.not (.and (.ile (.lit 0) (.var 1)) (.ilt (.var 1) (.lit 24))))
    (.call 0 { lo := 0, lob := 0, iv := [(0, (.lit 4))], bk := [(1, { blk := 1 }), (0, { blk := 6 })] } 5 <|
     .br (.not (.and (.ile (.lit 0) (.var 1)) (.ilt (.var 1) (.lit 9))))
     (.bad 17)
     (.ob (.inr .i64 (.mul (.lit 9) (.var 0))) <|
      .ob (.inr .i64 (.add (.lit 25) (.mul (.lit 9) (.var 0)))) <|
      .ob (.inr .i64 (.add (.add (.lit 25) (.mul (.lit 9) (.var 0))) (.var 1))) <|
      .br (.ilt (.add (.add (.lit 25) (.mul (.lit 9) (.var 0))) (.var 1)) (.lit 0))
      (.bad 17)
      (.br (.ieq (.add (.add (.lit 25) (.mul (.var 0) (.lit 9))) (.var 1)) (.add (.add (.lit 25) (.mul (.lit 9) (.var 0))) (.var 1)))
       (.br (.ilt (.add (.lit 79) (.var 0)) (.lit 0))
        (.bad 17)
        (.call 0 { lo := 0, lob := 0, iv := [(0, (.lit 4))], bk := [(1, { blk := 3 }), (0, { blk := 13 })] } 5 <|
         .fin { lo := 5, lob := 4, bv := [(5, (.lit true))] }))
       (.fin { lo := 5, lob := 4, bv := [(5, (.lit false))] }))))
    (.fin { lo := 5, lob := 4, bv := [(5, (.lit false))] }))
   (.br (.ilt (.var 4) (.lit 24))
    (.ob (.inr .i64 (.var 4)) <|
     .br (.not (.and (.ile (.lit 0) (.var 1)) (.ilt (.var 1) (.lit 24))))
     (.call 0 { lo := 0, lob := 0, iv := [(0, (.lit 4))], bk := [(1, { blk := 1 }), (0, { blk := 6 })] } 5 <|
      .br (.not (.and (.ile (.lit 0) (.var 1)) (.ilt (.var 1) (.lit 9))))
      (.bad 17)
      (.ob (.inr .i64 (.mul (.lit 9) (.var 0))) <|
       .ob (.inr .i64 (.add (.lit 25) (.mul (.lit 9) (.var 0)))) <|
       .ob (.inr .i64 (.add (.add (.lit 25) (.mul (.lit 9) (.var 0))) (.var 1))) <|
       .br (.ilt (.add (.add (.lit 25) (.mul (.lit 9) (.var 0))) (.var 1)) (.lit 0))
       (.bad 17)
       (.br (.ieq (.add (.add (.lit 25) (.mul (.var 0) (.lit 9))) (.var 1)) (.add (.add (.lit 25) (.mul (.lit 9) (.var 0))) (.var 1)))
        (.br (.ilt (.add (.lit 79) (.var 0)) (.lit 0))
         (.bad 17)
         (.fin { lo := 5, lob := 4, bv := [(5, (.lit true))] }))
        (.fin { lo := 5, lob := 4, bv := [(5, (.lit false))] }))))
     (.fin { lo := 5, lob := 4, bv := [(5, (.lit false))] }))
    (.br (.ilt (.var 4) (.lit 25))
     (.br (.ieq (.var 4) (.lit 24))
      (.br (.not (.and (.ile (.lit 0) (.var 1)) (.ilt (.var 1) (.lit 24))))
       (.call 0 { lo := 0, lob := 0, iv := [(0, (.lit 4))], bk := [(1, { blk := 1 }), (0, { blk := 6 })] } 5 <|
        .br (.not (.and (.ile (.lit 0) (.var 1)) (.ilt (.var 1) (.lit 9))))
        (.bad 17)
        (.ob (.inr .i64 (.mul (.lit 9) (.var 0))) <|
         .ob (.inr .i64 (.add (.lit 25) (.mul (.lit 9) (.var 0)))) <|
         .ob (.inr .i64 (.add (.add (.lit 25) (.mul (.lit 9) (.var 0))) (.var 1))) <|
         .br (.ilt (.add (.add (.lit 25) (.mul (.lit 9) (.var 0))) (.var 1)) (.lit 0))
         (.bad 17)
         (.br (.ieq (.add (.add (.lit 25) (.mul (.var 0) (.lit 9))) (.var 1)) (.add (.add (.lit 25) (.mul (.lit 9) (.var 0))) (.var 1)))
          (.br (.ilt (.add (.lit 79) (.var 0)) (.lit 0))
           (.bad 17)
           (.fin { lo := 5, lob := 4, bv := [(5, (.lit true))] }))
          (.fin { lo := 5, lob := 4, bv := [(5, (.lit false))] }))))
       (.fin { lo := 5, lob := 4, bv := [(5, (.lit false))] }))
      (.br (.ilt (.var 4) (.lit 79))
       (.ob (.inr .i64 (.sub (.var 4) (.lit 25))) <|
        .ob (.inr .i64 (.div (.sub (.var 4) (.lit 25)) (.lit 9))) <|
        .br (.not (.and (.ile (.lit 0) (.var 1)) (.ilt (.var 1) (.lit 24))))
        (.call 0 { lo := 0, lob := 0, iv := [(0, (.lit 4))], bk := [(1, { blk := 1 }), (0, { blk := 6 })] } 5 <|
         .br (.not (.and (.ile (.lit 0) (.var 1)) (.ilt (.var 1) (.lit 9))))
         (.bad 17)
         (.ob (.inr .i64 (.mul (.lit 9) (.var 0))) <|
          .ob (.inr .i64 (.add (.lit 25) (.mul (.lit 9) (.var 0)))) <|
          .ob (.inr .i64 (.add (.add (.lit 25) (.mul (.lit 9) (.var 0))) (.var 1))) <|
          .br (.ilt (.add (.add (.lit 25) (.mul (.lit 9) (.var 0))) (.var 1)) (.lit 0))
          (.bad 17)
          (.br (.ieq (.add (.add (.lit 25) (.mul (.var 0) (.lit 9))) (.var 1)) (.add (.add (.lit 25) (.mul (.lit 9) (.var 0))) (.var 1)))
           (.br (.ilt (.add (.lit 79) (.var 0)) (.lit 0))
            (.bad 17)
            (.fin { lo := 5, lob := 4, bv := [(5, (.lit false))] }))
           (.fin { lo := 5, lob := 4, bv := [(5, (.lit false))] }))))
        (.fin { lo := 5, lob := 4, bv := [(5, (.lit false))] }))
       (.ob (.inr .i64 (.sub (.var 4) (.lit 79))) <|
        .br (.not (.and (.ile (.lit 0) (.var 1)) (.ilt (.var 1) (.lit 24))))
        (.call 0 { lo := 0, lob := 0, iv := [(0, (.lit 4))], bk := [(1, { blk := 1 }), (0, { blk := 6 })] } 5 <|
         .br (.not (.and (.ile (.lit 0) (.var 1)) (.ilt (.var 1) (.lit 9))))
         (.bad 17)
         (.ob (.inr .i64 (.mul (.lit 9) (.var 0))) <|
          .ob (.inr .i64 (.add (.lit 25) (.mul (.lit 9) (.var 0)))) <|
          .ob (.inr .i64 (.add (.add (.lit 25) (.mul (.lit 9) (.var 0))) (.var 1))) <|
          .br (.ilt (.add (.add (.lit 25) (.mul (.lit 9) (.var 0))) (.var 1)) (.lit 0))
          (.bad 17)
          (.br (.ieq (.add (.add (.lit 25) (.mul (.var 0) (.lit 9))) (.var 1)) (.add (.add (.lit 25) (.mul (.lit 9) (.var 0))) (.var 1)))
           (.br (.ilt (.add (.lit 79) (.var 0)) (.lit 0))
            (.bad 17)
            (.fin { lo := 5, lob := 4, bv := [(5, (.lit false))] }))
           (.fin { lo := 5, lob := 4, bv := [(5, (.lit false))] }))))
        (.fin { lo := 5, lob := 4, bv := [(5, (.lit false))] }))))
     (.br (.ilt (.var 4) (.lit 79))
      (.ob (.inr .i64 (.sub (.var 4) (.lit 25))) <|
       .ob (.inr .i64 (.div (.sub (.var 4) (.lit 25)) (.lit 9))) <|
       .br (.ieq (.var 4) (.lit 24))
       (.br (.not (.and (.ile (.lit 0) (.var 1)) (.ilt (.var 1) (.lit 24))))
        (.call 0 { lo := 0, lob := 0, iv := [(0, (.lit 4))], bk := [(1, { blk := 1 }), (0, { blk := 6 })] } 5 <|
         .br (.not (.and (.ile (.lit 0) (.var 1)) (.ilt (.var 1) (.lit 9))))
         (.bad 17)
         (.ob (.inr .i64 (.mul (.lit 9) (.var 0))) <|
          .ob (.inr .i64 (.add (.lit 25) (.mul (.lit 9) (.var 0)))) <|
          .ob (.inr .i64 (.add (.add (.lit 25) (.mul (.lit 9) (.var 0))) (.var 1))) <|
          .br (.ilt (.add (.add (.lit 25) (.mul (.lit 9) (.var 0))) (.var 1)) (.lit 0))
          (.bad 17)
          (.br (.ieq (.add (.add (.lit 25) (.mul (.var 0) (.lit 9))) (.var 1)) (.add (.add (.lit 25) (.mul (.lit 9) (.var 0))) (.var 1)))
           (.br (.ilt (.add (.lit 79) (.var 0)) (.lit 0))
            (.bad 17)
            (.fin { lo := 5, lob := 4, bv := [(5, (.lit false))] }))
           (.fin { lo := 5, lob := 4, bv := [(5, (.lit false))] }))))
        (.fin { lo := 5, lob := 4, bv := [(5, (.lit false))] }))
       (.br (.not (.and (.ile (.lit 0) (.var 1)) (.ilt (.var 1) (.lit 24))))
        (.call 0 { lo := 0, lob := 0, iv := [(0, (.lit 4))], bk := [(1, { blk := 1 }), (0, { blk := 6 })] } 5 <|
         .br (.not (.and (.ile (.lit 0) (.var 1)) (.ilt (.var 1) (.lit 9))))
         (.bad 17)
         (.ob (.inr .i64 (.mul (.lit 9) (.var 0))) <|
          .ob (.inr .i64 (.add (.lit 25) (.mul (.lit 9) (.var 0)))) <|
          .ob (.inr .i64 (.add (.add (.lit 25) (.mul (.lit 9) (.var 0))) (.var 1))) <|
          .br (.ilt (.add (.add (.lit 25) (.mul (.lit 9) (.var 0))) (.var 1)) (.lit 0))
          (.bad 17)
          (.br (.ieq (.add (.add (.lit 25) (.mul (.var 0) (.lit 9))) (.var 1)) (.add (.add (.lit 25) (.mul (.lit 9) (.var 0))) (.var 1)))
           (.br (.ilt (.add (.lit 79) (.var 0)) (.lit 0))
            (.bad 17)
            (.fin { lo := 5, lob := 4, bv := [(5, (.lit true))] }))
           (.fin { lo := 5, lob := 4, bv := [(5, (.lit false))] }))))
        (.fin { lo := 5, lob := 4, bv := [(5, (.lit false))] })))
      (.ob (.inr .i64 (.sub (.var 4) (.lit 79))) <|
       .br (.ieq (.var 4) (.lit 24))
       (.br (.not (.and (.ile (.lit 0) (.var 1)) (.ilt (.var 1) (.lit 24))))
        (.call 0 { lo := 0, lob := 0, iv := [(0, (.lit 4))], bk := [(1, { blk := 1 }), (0, { blk := 6 })] } 5 <|
         .br (.not (.and (.ile (.lit 0) (.var 1)) (.ilt (.var 1) (.lit 9))))
         (.bad 17)
         (.ob (.inr .i64 (.mul (.lit 9) (.var 0))) <|
          .ob (.inr .i64 (.add (.lit 25) (.mul (.lit 9) (.var 0)))) <|
          .ob (.inr .i64 (.add (.add (.lit 25) (.mul (.lit 9) (.var 0))) (.var 1))) <|
          .br (.ilt (.add (.add (.lit 25) (.mul (.lit 9) (.var 0))) (.var 1)) (.lit 0))
          (.bad 17)
          (.br (.ieq (.add (.add (.lit 25) (.mul (.var 0) (.lit 9))) (.var 1)) (.add (.add (.lit 25) (.mul (.lit 9) (.var 0))) (.var 1)))
           (.br (.ilt (.add (.lit 79) (.var 0)) (.lit 0))
            (.bad 17)
            (.fin { lo := 5, lob := 4, bv := [(5, (.lit false))] }))
           (.fin { lo := 5, lob := 4, bv := [(5, (.lit false))] }))))
        (.fin { lo := 5, lob := 4, bv := [(5, (.lit false))] }))
       (.br (.not (.and (.ile (.lit 0) (.var 1)) (.ilt (.var 1) (.lit 24))))
        (.call 0 { lo := 0, lob := 0, iv := [(0, (.lit 4))], bk := [(1, { blk := 1 }), (0, { blk := 6 })] } 5 <|
         .br (.not (.and (.ile (.lit 0) (.var 1)) (.ilt (.var 1) (.lit 9))))
         (.bad 17)
         (.ob (.inr .i64 (.mul (.lit 9) (.var 0))) <|
          .ob (.inr .i64 (.add (.lit 25) (.mul (.lit 9) (.var 0)))) <|
          .ob (.inr .i64 (.add (.add (.lit 25) (.mul (.lit 9) (.var 0))) (.var 1))) <|
          .br (.ilt (.add (.add (.lit 25) (.mul (.lit 9) (.var 0))) (.var 1)) (.lit 0))
          (.bad 17)
          (.br (.ieq (.add (.add (.lit 25) (.mul (.var 0) (.lit 9))) (.var 1)) (.add (.add (.lit 25) (.mul (.lit 9) (.var 0))) (.var 1)))
           (.br (.ilt (.add (.lit 79) (.var 0)) (.lit 0))
            (.bad 17)
            (.fin { lo := 5, lob := 4, bv := [(5, (.lit true))] }))
           (.fin { lo := 5, lob := 4, bv := [(5, (.lit false))] }))))
        (.fin { lo := 5, lob := 4, bv := [(5, (.lit false))] })))))))
theorem ex_r8 : exec tab exact_E 3786 [] ex_c8 = ex_p8 := by kernel_rfl
def ex_p7 : Out :=
  .br (.not (.and (.ile (.lit 0) (.var 1)) (.ilt (.var 1) (.lit 24))))
  (.call 0 { lo := 0, lob := 0, iv := [(0, (.lit 4))], bk := [(1, { blk := 1 }), (0, { blk := 6 })] } 5 <|
   .br (.not (.and (.ile (.lit 0) (.var 1)) (.ilt (.var 1) (.lit 9))))
   (.bad 17)
   (.ob (.inr .i64 (.mul (.lit 9) (.var 0))) <|
    .ob (.inr .i64 (.add (.lit 25) (.mul (.lit 9) (.var 0)))) <|
    .ob (.inr .i64 (.add (.add (.lit 25) (.mul (.lit 9) (.var 0))) (.var 1))) <|
    .br (.ilt (.add (.add (.lit 25) (.mul (.lit 9) (.var 0))) (.var 1)) (.lit 0))
    (.bad 17)
    (.br (.ieq (.add (.add (.lit 25) (.mul (.var 0) (.lit 9))) (.var 1)) (.add (.add (.lit 25) (.mul (.lit 9) (.var 0))) (.var 1)))
     (.br (.ilt (.add (.lit 79) (.var 0)) (.lit 0))
      (.bad 17)
      (.call 0 { lo := 0, lob := 0, iv := [(0, (.lit 4))], bk := [(1, { blk := 3 }), (0, { blk := 13 })] } 5 <|
       .fin { lo := 5, lob := 4, bv := [(5, (.lit true))] }))
     (.fin { lo := 5, lob := 4, bv := [(5, (.lit false))] }))))
  (.fin { lo := 5, lob := 4, bv := [(5, (.lit false))] })
theorem ex_r7 : exec tab exact_E 3786 [] ex_c7 = ex_p7 := by kernel_rfl
def ex_f6 (K : Nat → List Opn → Cfg → Out) : Out :=
  .br (.not (.ieq (.var 3) (.lit 0)))
  (.br (.not (.and (.ile (.lit 0) (.var 1)) (.ilt (.var 1) (.lit 24))))
   (.call 0 { lo := 0, lob := 0, iv := [(0, (.lit 4))], bk := [(1, { blk := 1 }), (0, { blk := 6 })] } 5 <|
    .br (.not (.and (.ile (.lit 0) (.var 1)) (.ilt (.var 1) (.lit 9))))
    (.call 0 { lo := 0, lob := 0, iv := [(0, (.lit 4))], bk := [(1, { blk := 1 }), (0, { blk := 9 })] } 5 <|
     .br (.ilt (.add (.lit 79) (.var 0)) (.lit 0))
     (K 3444 [] ex_c17)
     (K 3444 [] ex_c18))
    (.ob (.inr .i64 (.mul (.lit 9) (.var 0))) <|
     .ob (.inr .i64 (.add (.lit 25) (.mul (.lit 9) (.var 0)))) <|
     .ob (.inr .i64 (.add (.add (.lit 25) (.mul (.lit 9) (.var 0))) (.var 1))) <|
     .br (.ilt (.add (.add (.lit 25) (.mul (.lit 9) (.var 0))) (.var 1)) (.lit 0))
     (K 3510 [] ex_c19)
     (K 3510 [] ex_c20)))
   (.br (.ilt (.var 1) (.lit 0))
    (.call 0 { lo := 0, lob := 0, iv := [(0, (.lit 4))], bk := [(1, { blk := 1 }), (0, { blk := 6 })] } 5 <|
     .br (.not (.ilt (.var 1) (.lit 9)))
     (K 3533 [] ex_c21)
     (K 3533 [] ex_c22))
    (.fin { lo := 5, lob := 4, bv := [(5, (.lit false))] })))
  (.br (.or (.ilt (.var 4) (.lit 0)) (.ile (.lit 85) (.var 4)))
   (.br (.not (.and (.ile (.lit 0) (.var 1)) (.ilt (.var 1) (.lit 24))))
    (.call 0 { lo := 0, lob := 0, iv := [(0, (.lit 4))], bk := [(1, { blk := 1 }), (0, { blk := 6 })] } 5 <|
     .br (.not (.and (.ile (.lit 0) (.var 1)) (.ilt (.var 1) (.lit 9))))
     (K 3535 [] ex_c23)
     (K 3535 [] ex_c24))
    (.br (.ilt (.var 1) (.lit 0))
     (K 3603 [] ex_c25)
     (K 3603 [] ex_c26)))
   (.br (.ilt (.var 4) (.lit 24))
    (.ob (.inr .i64 (.var 4)) <|
     .br (.not (.and (.ile (.lit 0) (.var 1)) (.ilt (.var 1) (.lit 24))))
     (K 3630 [] ex_c27)
     (K 3630 [] ex_c28))
    (.br (.ilt (.var 4) (.lit 25))
     (K 3739 [] ex_c29)
     (K 3739 [] ex_c30))))
theorem ex_r6 : exec tab exact_E 3768 [] ex_c6 = ex_f6 (exec tab exact_E) := exec_of (b := 3) (F := ex_f6) (fun K => by kernel_rfl)
def ex_p5 : Out :=
  .br (.not (.and (.ile (.lit 0) (.var 1)) (.ilt (.var 1) (.lit 24))))
  (.call 0 { lo := 0, lob := 0, iv := [(0, (.lit 4))], bk := [(1, { blk := 1 }), (0, { blk := 6 })] } 5 <|
   .br (.not (.and (.ile (.lit 0) (.var 1)) (.ilt (.var 1) (.lit 9))))
   (.call 0 { lo := 0, lob := 0, iv := [(0, (.lit 4))], bk := [(1, { blk := 1 }), (0, { blk := 9 })] } 5 <|
    .br (.ilt (.add (.lit 79) (.var 0)) (.lit 0))
    (.bad 17)
    (.call 0 { lo := 0, lob := 0, iv := [(0, (.lit 4))], bk := [(1, { blk := 3 }), (0, { blk := 14 })] } 5 <|
     .fin { lo := 5, lob := 4, bv := [(5, (.lit true))] }))
   (.ob (.inr .i64 (.mul (.lit 9) (.var 0))) <|
    .ob (.inr .i64 (.add (.lit 25) (.mul (.lit 9) (.var 0)))) <|
    .ob (.inr .i64 (.add (.add (.lit 25) (.mul (.lit 9) (.var 0))) (.var 1))) <|
    .br (.ilt (.add (.add (.lit 25) (.mul (.lit 9) (.var 0))) (.var 1)) (.lit 0))
    (.call 0 { lo := 0, lob := 0, iv := [(0, (.lit 4))], bk := [(1, { blk := 1 }), (0, { blk := 9 })] } 5 <|
     .br (.ilt (.add (.lit 79) (.var 0)) (.lit 0))
     (.bad 17)
     (.call 0 { lo := 0, lob := 0, iv := [(0, (.lit 4))], bk := [(1, { blk := 3 }), (0, { blk := 14 })] } 5 <|
      .fin { lo := 5, lob := 4, bv := [(5, (.lit true))] }))
    (.fin { lo := 5, lob := 4, bv := [(5, (.lit false))] })))
  (.br (.ilt (.var 1) (.lit 0))
   (.call 0 { lo := 0, lob := 0, iv := [(0, (.lit 4))], bk := [(1, { blk := 1 }), (0, { blk := 6 })] } 5 <|
    .br (.not (.ilt (.var 1) (.lit 9)))
    (.call 0 { lo := 0, lob := 0, iv := [(0, (.lit 4))], bk := [(1, { blk := 1 }), (0, { blk := 9 })] } 5 <|
     .br (.ilt (.add (.lit 79) (.var 0)) (.lit 0))
     (.bad 17)
     (.call 0 { lo := 0, lob := 0, iv := [(0, (.lit 4))], bk := [(1, { blk := 3 }), (0, { blk := 14 })] } 5 <|
      .fin { lo := 5, lob := 4, bv := [(5, (.lit true))] }))
    (.ob (.inr .i64 (.mul (.lit 9) (.var 0))) <|
     .ob (.inr .i64 (.add (.lit 25) (.mul (.lit 9) (.var 0)))) <|
     .ob (.inr .i64 (.add (.add (.lit 25) (.mul (.lit 9) (.var 0))) (.var 1))) <|
     .br (.ilt (.add (.add (.lit 25) (.mul (.lit 9) (.var 0))) (.var 1)) (.lit 0))
     (.call 0 { lo := 0, lob := 0, iv := [(0, (.lit 4))], bk := [(1, { blk := 1 }), (0, { blk := 9 })] } 5 <|
      .br (.ilt (.add (.lit 79) (.var 0)) (.lit 0))
      (.bad 17)
      (.call 0 { lo := 0, lob := 0, iv := [(0, (.lit 4))], bk := [(1, { blk := 3 }), (0, { blk := 14 })] } 5 <|
       .fin { lo := 5, lob := 4, bv := [(5, (.lit true))] }))
     (.fin { lo := 5, lob := 4, bv := [(5, (.lit false))] })))
   (.fin { lo := 5, lob := 4, bv := [(5, (.lit false))] }))
theorem ex_r5 : exec tab exact_E 3768 [] ex_c5 = ex_p5 := by kernel_rfl
def ex_p4 : Out :=
  .br (.or (.ilt (.var 4) (.lit 0)) (.ile (.lit 85) (.var 4)))
  (.br (.not (.and (.ile (.lit 0) (.var 1)) (.ilt (.var 1) (.lit 24))))
   (.call 0 { lo := 0, lob := 0, iv := [(0, (.lit 4))], bk := [(1, { blk := 1 }), (0, { blk := 6 })] } 5 <|
    .call 0 { lo := 0, lob := 0, iv := [(0, (.lit 4))], bk := [(1, { blk := 1 }), (0, { blk := 9 })] } 5 <|
    .call 0 { lo := 0, lob := 0, iv := [(0, (.lit 4))], bk := [(1, { blk := 1 }), (0, { blk := 12 })] } 5 <|
    .call 0 { lo := 0, lob := 0, iv := [(0, (.lit 4))], bk := [(1, { blk := 3 }), (0, { blk := 15 })] } 5 <|
    .fin { lo := 5, lob := 4, bv := [(5, (.lit true))] })
   (.br (.ilt (.var 1) (.lit 0))
    (.call 0 { lo := 0, lob := 0, iv := [(0, (.lit 4))], bk := [(1, { blk := 1 }), (0, { blk := 6 })] } 5 <|
     .call 0 { lo := 0, lob := 0, iv := [(0, (.lit 4))], bk := [(1, { blk := 1 }), (0, { blk := 9 })] } 5 <|
     .call 0 { lo := 0, lob := 0, iv := [(0, (.lit 4))], bk := [(1, { blk := 1 }), (0, { blk := 12 })] } 5 <|
     .call 0 { lo := 0, lob := 0, iv := [(0, (.lit 4))], bk := [(1, { blk := 3 }), (0, { blk := 15 })] } 5 <|
     .fin { lo := 5, lob := 4, bv := [(5, (.lit true))] })
    (.fin { lo := 5, lob := 4, bv := [(5, (.lit false))] })))
  (.br (.ilt (.var 4) (.lit 24))
   (.ob (.inr .i64 (.var 4)) <|
    .br (.not (.and (.ile (.lit 0) (.var 1)) (.ilt (.var 1) (.lit 24))))
    (.call 0 { lo := 0, lob := 0, iv := [(0, (.lit 4))], bk := [(1, { blk := 1 }), (0, { blk := 6 })] } 5 <|
     .call 0 { lo := 0, lob := 0, iv := [(0, (.lit 4))], bk := [(1, { blk := 1 }), (0, { blk := 9 })] } 5 <|
     .call 0 { lo := 0, lob := 0, iv := [(0, (.lit 4))], bk := [(1, { blk := 1 }), (0, { blk := 12 })] } 5 <|
     .fin { lo := 5, lob := 4, bv := [(5, (.lit true))] })
    (.br (.ilt (.var 1) (.lit 0))
     (.call 0 { lo := 0, lob := 0, iv := [(0, (.lit 4))], bk := [(1, { blk := 1 }), (0, { blk := 6 })] } 5 <|
      .call 0 { lo := 0, lob := 0, iv := [(0, (.lit 4))], bk := [(1, { blk := 1 }), (0, { blk := 9 })] } 5 <|
      .call 0 { lo := 0, lob := 0, iv := [(0, (.lit 4))], bk := [(1, { blk := 1 }), (0, { blk := 12 })] } 5 <|
      .fin { lo := 5, lob := 4, bv := [(5, (.lit true))] })
     (.fin { lo := 5, lob := 4, bv := [(5, (.lit false))] })))
   (.br (.ilt (.var 4) (.lit 25))
    (.br (.ieq (.var 4) (.lit 24))
     (.br (.not (.and (.ile (.lit 0) (.var 1)) (.ilt (.var 1) (.lit 24))))
      (.call 0 { lo := 0, lob := 0, iv := [(0, (.lit 4))], bk := [(1, { blk := 1 }), (0, { blk := 6 })] } 5 <|
       .call 0 { lo := 0, lob := 0, iv := [(0, (.lit 4))], bk := [(1, { blk := 1 }), (0, { blk := 9 })] } 5 <|
       .call 0 { lo := 0, lob := 0, iv := [(0, (.lit 4))], bk := [(1, { blk := 1 }), (0, { blk := 12 })] } 5 <|
       .fin { lo := 5, lob := 4, bv := [(5, (.lit true))] })
      (.br (.ilt (.var 1) (.lit 0))
       (.call 0 { lo := 0, lob := 0, iv := [(0, (.lit 4))], bk := [(1, { blk := 1 }), (0, { blk := 6 })] } 5 <|
        .call 0 { lo := 0, lob := 0, iv := [(0, (.lit 4))], bk := [(1, { blk := 1 }), (0, { blk := 9 })] } 5 <|
        .call 0 { lo := 0, lob := 0, iv := [(0, (.lit 4))], bk := [(1, { blk := 1 }), (0, { blk := 12 })] } 5 <|
        .fin { lo := 5, lob := 4, bv := [(5, (.lit true))] })
       (.fin { lo := 5, lob := 4, bv := [(5, (.lit false))] })))
     (.br (.ilt (.var 4) (.lit 79))
      (.ob (.inr .i64 (.sub (.var 4) (.lit 25))) <|
       .ob (.inr .i64 (.div (.sub (.var 4) (.lit 25)) (.lit 9))) <|
       .br (.not (.and (.ile (.lit 0) (.var 1)) (.ilt (.var 1) (.lit 24))))
       (.call 0 { lo := 0, lob := 0, iv := [(0, (.lit 4))], bk := [(1, { blk := 1 }), (0, { blk := 6 })] } 5 <|
        .call 0 { lo := 0, lob := 0, iv := [(0, (.lit 4))], bk := [(1, { blk := 1 }), (0, { blk := 9 })] } 5 <|
        .call 0 { lo := 0, lob := 0, iv := [(0, (.lit 4))], bk := [(1, { blk := 1 }), (0, { blk := 12 })] } 5 <|
        .fin { lo := 5, lob := 4, bv := [(5, (.lit false))] })
       (.br (.ilt (.var 1) (.lit 0))
        (.call 0 { lo := 0, lob := 0, iv := [(0, (.lit 4))], bk := [(1, { blk := 1 }), (0, { blk := 6 })] } 5 <|
         .call 0 { lo := 0, lob := 0, iv := [(0, (.lit 4))], bk := [(1, { blk := 1 }), (0, { blk := 9 })] } 5 <|
         .call 0 { lo := 0, lob := 0, iv := [(0, (.lit 4))], bk := [(1, { blk := 1 }), (0, { blk := 12 })] } 5 <|
         .fin { lo := 5, lob := 4, bv := [(5, (.lit false))] })
        (.fin { lo := 5, lob := 4, bv := [(5, (.lit false))] })))
      (.ob (.inr .i64 (.sub (.var 4) (.lit 79))) <|
       .br (.not (.and (.ile (.lit 0) (.var 1)) (.ilt (.var 1) (.lit 24))))
       (.call 0 { lo := 0, lob := 0, iv := [(0, (.lit 4))], bk := [(1, { blk := 1 }), (0, { blk := 6 })] } 5 <|
        .call 0 { lo := 0, lob := 0, iv := [(0, (.lit 4))], bk := [(1, { blk := 1 }), (0, { blk := 9 })] } 5 <|
        .call 0 { lo := 0, lob := 0, iv := [(0, (.lit 4))], bk := [(1, { blk := 1 }), (0, { blk := 12 })] } 5 <|
        .fin { lo := 5, lob := 4, bv := [(5, (.lit false))] })
       (.br (.ilt (.var 1) (.lit 0))
        (.call 0 { lo := 0, lob := 0, iv := [(0, (.lit 4))], bk := [(1, { blk := 1 }), (0, { blk := 6 })] } 5 <|
         .call 0 { lo := 0, lob := 0, iv := [(0, (.lit 4))], bk := [(1, { blk := 1 }), (0, { blk := 9 })] } 5 <|
         .call 0 { lo := 0, lob := 0, iv := [(0, (.lit 4))], bk := [(1, { blk := 1 }), (0, { blk := 12 })] } 5 <|
         .fin { lo := 5, lob := 4, bv := [(5, (.lit false))] })
        (.fin { lo := 5, lob := 4, bv := [(5, (.lit false))] })))))
    (.br (.ilt (.var 4) (.lit 79))
     (.ob (.inr .i64 (.sub (.var 4) (.lit 25))) <|
      .ob (.inr .i64 (.div (.sub (.var 4) (.lit 25)) (.lit 9))) <|
      .br (.ieq (.var 4) (.lit 24))
      (.br (.not (.and (.ile (.lit 0) (.var 1)) (.ilt (.var 1) (.lit 24))))
       (.call 0 { lo := 0, lob := 0, iv := [(0, (.lit 4))], bk := [(1, { blk := 1 }), (0, { blk := 6 })] } 5 <|
        .call 0 { lo := 0, lob := 0, iv := [(0, (.lit 4))], bk := [(1, { blk := 1 }), (0, { blk := 9 })] } 5 <|
        .call 0 { lo := 0, lob := 0, iv := [(0, (.lit 4))], bk := [(1, { blk := 1 }), (0, { blk := 12 })] } 5 <|
        .fin { lo := 5, lob := 4, bv := [(5, (.lit false))] })
       (.br (.ilt (.var 1) (.lit 0))
        (.call 0 { lo := 0, lob := 0, iv := [(0, (.lit 4))], bk := [(1, { blk := 1 }), (0, { blk := 6 })] } 5 <|
         .call 0 { lo := 0, lob := 0, iv := [(0, (.lit 4))], bk := [(1, { blk := 1 }), (0, { blk := 9 })] } 5 <|
         .call 0 { lo := 0, lob := 0, iv := [(0, (.lit 4))], bk := [(1, { blk := 1 }), (0, { blk := 12 })] } 5 <|
         .fin { lo := 5, lob := 4, bv := [(5, (.lit false))] })
        (.fin { lo := 5, lob := 4, bv := [(5, (.lit false))] })))
      (.br (.not (.and (.ile (.lit 0) (.var 1)) (.ilt (.var 1) (.lit 24))))
       (.call 0 { lo := 0, lob := 0, iv := [(0, (.lit 4))], bk := [(1, { blk := 1 }), (0, { blk := 6 })] } 5 <|
        .call 0 { lo := 0, lob := 0, iv := [(0, (.lit 4))], bk := [(1, { blk := 1 }), (0, { blk := 9 })] } 5 <|
        .call 0 { lo := 0, lob := 0, iv := [(0, (.lit 4))], bk := [(1, { blk := 1 }), (0, { blk := 12 })] } 5 <|
        .fin { lo := 5, lob := 4, bv := [(5, (.lit true))] })
       (.br (.ilt (.var 1) (.lit 0))
        (.call 0 { lo := 0, lob := 0, iv := [(0, (.lit 4))], bk := [(1, { blk := 1 }), (0, { blk := 6 })] } 5 <|
         .call 0 { lo := 0, lob := 0, iv := [(0, (.lit 4))], bk := [(1, { blk := 1 }), (0, { blk := 9 })] } 5 <|
         .call 0 { lo := 0, lob := 0, iv := [(0, (.lit 4))], bk := [(1, { blk := 1 }), (0, { blk := 12 })] } 5 <|
         .fin { lo := 5, lob := 4, bv := [(5, (.lit true))] })
        (.fin { lo := 5, lob := 4, bv := [(5, (.lit false))] }))))
     (.ob (.inr .i64 (.sub (.var 4) (.lit 79))) <|
      .br (.ieq (.var 4) (.lit 24))
      (.br (.not (.and (.ile (.lit 0) (.var 1)) (.ilt (.var 1) (.lit 24))))
       (.call 0 { lo := 0, lob := 0, iv := [(0, (.lit 4))], bk := [(1, { blk := 1 }), (0, { blk := 6 })] } 5 <|
        .call 0 { lo := 0, lob := 0, iv := [(0, (.lit 4))], bk := [(1, { blk := 1 }), (0, { blk := 9 })] } 5 <|
        .call 0 { lo := 0, lob := 0, iv := [(0, (.lit 4))], bk := [(1, { blk := 1 }), (0, { blk := 12 })] } 5 <|
        .fin { lo := 5, lob := 4, bv := [(5, (.lit false))] })
       (.br (.ilt (.var 1) (.lit 0))
        (.call 0 { lo := 0, lob := 0, iv := [(0, (.lit 4))], bk := [(1, { blk := 1 }), (0, { blk := 6 })] } 5 <|
         .call 0 { lo := 0, lob := 0, iv := [(0, (.lit 4))], bk := [(1, { blk := 1 }), (0, { blk := 9 })] } 5 <|
         .call 0 { lo := 0, lob := 0, iv := [(0, (.lit 4))], bk := [(1, { blk := 1 }), (0, { blk := 12 })] } 5 <|
         .fin { lo := 5, lob := 4, bv := [(5, (.lit false))] })
        (.fin { lo := 5, lob := 4, bv := [(5, (.lit false))] })))
      (.br (.not (.and (.ile (.lit 0) (.var 1)) (.ilt (.var 1) (.lit 24))))
       (.call 0 { lo := 0, lob := 0, iv := [(0, (.lit 4))], bk := [(1, { blk := 1 }), (0, { blk := 6 })] } 5 <|
        .call 0 { lo := 0, lob := 0, iv := [(0, (.lit 4))], bk := [(1, { blk := 1 }), (0, { blk := 9 })] } 5 <|
        .call 0 { lo := 0, lob := 0, iv := [(0, (.lit 4))], bk := [(1, { blk := 1 }), (0, { blk := 12 })] } 5 <|
        .fin { lo := 5, lob := 4, bv := [(5, (.lit true))] })
       (.br (.ilt (.var 1) (.lit 0))
        (.call 0 { lo := 0, lob := 0, iv := [(0, (.lit 4))], bk := [(1, { blk := 1 }), (0, { blk := 6 })] } 5 <|
         .call 0 { lo := 0, lob := 0, iv := [(0, (.lit 4))], bk := [(1, { blk := 1 }), (0, { blk := 9 })] } 5 <|
         .call 0 { lo := 0, lob := 0, iv := [(0, (.lit 4))], bk := [(1, { blk := 1 }), (0, { blk := 12 })] } 5 <|
         .fin { lo := 5, lob := 4, bv := [(5, (.lit true))] })
        (.fin { lo := 5, lob := 4, bv := [(5, (.lit false))] })))))))
theorem ex_r4 : exec tab exact_E 3743 [] ex_c4 = ex_p4 := by kernel_rfl
def ex_p3 : Out :=
  .br (.not (.and (.ile (.lit 0) (.var 1)) (.ilt (.var 1) (.lit 24))))
  (.call 0 { lo := 0, lob := 0, iv := [(0, (.lit 4))], bk := [(1, { blk := 1 }), (0, { blk := 6 })] } 5 <|
   .call 0 { lo := 0, lob := 0, iv := [(0, (.lit 4))], bk := [(1, { blk := 1 }), (0, { blk := 9 })] } 5 <|
   .call 0 { lo := 0, lob := 0, iv := [(0, (.lit 4))], bk := [(1, { blk := 1 }), (0, { blk := 12 })] } 5 <|
   .call 0 { lo := 0, lob := 0, iv := [(0, (.lit 4))], bk := [(1, { blk := 3 }), (0, { blk := 15 })] } 5 <|
   .fin { lo := 5, lob := 4, bv := [(5, (.lit true))] })
  (.br (.ilt (.var 1) (.lit 0))
   (.call 0 { lo := 0, lob := 0, iv := [(0, (.lit 4))], bk := [(1, { blk := 1 }), (0, { blk := 6 })] } 5 <|
    .call 0 { lo := 0, lob := 0, iv := [(0, (.lit 4))], bk := [(1, { blk := 1 }), (0, { blk := 9 })] } 5 <|
    .call 0 { lo := 0, lob := 0, iv := [(0, (.lit 4))], bk := [(1, { blk := 1 }), (0, { blk := 12 })] } 5 <|
    .call 0 { lo := 0, lob := 0, iv := [(0, (.lit 4))], bk := [(1, { blk := 3 }), (0, { blk := 15 })] } 5 <|
    .fin { lo := 5, lob := 4, bv := [(5, (.lit true))] })
   (.fin { lo := 5, lob := 4, bv := [(5, (.lit false))] }))
theorem ex_r3 : exec tab exact_E 3743 [] ex_c3 = ex_p3 := by kernel_rfl
def ex_p2 : Out :=
  .br (.ilt (.var 1) (.lit 0))
  (.call 0 { lo := 0, lob := 0, iv := [(0, (.lit 4))], bk := [(1, { blk := 1 }), (0, { blk := 6 })] } 5 <|
   .call 0 { lo := 0, lob := 0, iv := [(0, (.lit 4))], bk := [(1, { blk := 1 }), (0, { blk := 9 })] } 5 <|
   .call 0 { lo := 0, lob := 0, iv := [(0, (.lit 4))], bk := [(1, { blk := 1 }), (0, { blk := 12 })] } 5 <|
   .call 0 { lo := 0, lob := 0, iv := [(0, (.lit 4))], bk := [(1, { blk := 3 }), (0, { blk := 15 })] } 5 <|
   .fin { lo := 5, lob := 4, bv := [(5, (.lit true))] })
  (.fin { lo := 5, lob := 4, bv := [(5, (.lit false))] })
theorem ex_r2 : exec tab exact_E 3607 [] ex_c2 = ex_p2 := by kernel_rfl
def ex_p1 : Out :=
  .call 0 { lo := 0, lob := 0, iv := [(0, (.lit 4))], bk := [(1, { blk := 1 }), (0, { blk := 6 })] } 5 <|
  .call 0 { lo := 0, lob := 0, iv := [(0, (.lit 4))], bk := [(1, { blk := 1 }), (0, { blk := 9 })] } 5 <|
  .call 0 { lo := 0, lob := 0, iv := [(0, (.lit 4))], bk := [(1, { blk := 1 }), (0, { blk := 12 })] } 5 <|
  .call 0 { lo := 0, lob := 0, iv := [(0, (.lit 4))], bk := [(1, { blk := 3 }), (0, { blk := 15 })] } 5 <|
  .fin { lo := 5, lob := 4, bv := [(5, (.lit true))] }
theorem ex_r1 : exec tab exact_E 3607 [] ex_c1 = ex_p1 := by kernel_rfl
def ex_f0 (K : Nat → List Opn → Cfg → Out) : Out :=
  .call 1 { lo := 0, lob := 0, bk := [(1, { blk := 1 }), (0, { blk := 0 })] } 5 <|
  .br (.or (.ilt (.var 1) (.lit 0)) (.ile (.lit 24) (.var 1)))
  (.br (.not (.and (.ile (.lit 0) (.var 0)) (.ilt (.var 0) (.lit 6))))
   (.br (.not (.ieq (.var 2) (.lit 0)))
    (.br (.not (.and (.ile (.lit 0) (.var 1)) (.ilt (.var 1) (.lit 24))))
     (K 3607 [] ex_c1)
     (K 3607 [] ex_c2))
    (.br (.not (.ieq (.var 3) (.lit 0)))
     (K 3743 [] ex_c3)
     (K 3743 [] ex_c4)))
   (.br (.or (.ilt (.var 1) (.lit 0)) (.ile (.lit 9) (.var 1)))
    (.ob (.inr .i64 (.add (.lit 79) (.var 0))) <|
     .br (.not (.ieq (.var 2) (.lit 0)))
     (K 3768 [] ex_c5)
     (K 3768 [] ex_c6))
    (.ob (.inr .i64 (.mul (.var 0) (.lit 9))) <|
     .ob (.inr .i64 (.add (.lit 25) (.mul (.var 0) (.lit 9)))) <|
     .ob (.inr .i64 (.add (.add (.lit 25) (.mul (.var 0) (.lit 9))) (.var 1))) <|
     .ob (.inr .i64 (.add (.lit 79) (.var 0))) <|
     .br (.not (.ieq (.var 2) (.lit 0)))
     (K 3786 [] ex_c7)
     (K 3786 [] ex_c8))))
  (.ob (.inr .i64 (.var 1)) <|
   .br (.not (.and (.ile (.lit 0) (.var 0)) (.ilt (.var 0) (.lit 6))))
   (.br (.not (.ieq (.var 2) (.lit 0)))
    (.br (.not (.and (.ile (.lit 0) (.var 1)) (.ilt (.var 1) (.lit 24))))
     (K 3628 [] ex_c9)
     (K 3628 [] ex_c10))
    (.br (.not (.ieq (.var 3) (.lit 0)))
     (K 3764 [] ex_c11)
     (K 3764 [] ex_c12)))
   (.br (.ile (.lit 9) (.var 1))
    (.ob (.inr .i64 (.add (.lit 79) (.var 0))) <|
     .br (.not (.ieq (.var 2) (.lit 0)))
     (K 3789 [] ex_c13)
     (K 3789 [] ex_c14))
    (.ob (.inr .i64 (.mul (.var 0) (.lit 9))) <|
     .ob (.inr .i64 (.add (.lit 25) (.mul (.var 0) (.lit 9)))) <|
     .ob (.inr .i64 (.add (.add (.lit 25) (.mul (.var 0) (.lit 9))) (.var 1))) <|
     .ob (.inr .i64 (.add (.lit 79) (.var 0))) <|
     .br (.not (.ieq (.var 2) (.lit 0)))
     (K 3807 [] ex_c15)
     (K 3807 [] ex_c16))))
theorem ex_r0 : exec tab exact_E 4000 [] ex_c0 = ex_f0 (exec tab exact_E) := exec_of (b := 3) (F := ex_f0) (fun K => by kernel_rfl)
end Go.Proofs.YtlfhjmfelbomaaaDoor
