/- part 5 of the proof -/
import Derived.Test.YthomdlajobnmnaaDoorChecked
import Derived.KernelRfl
import Derived.Test.YthomdlajobnmnaaDoorV4
namespace Go.Proofs.YthomdlajobnmnaaDoor
open Go.Rex
abbrev z6:SC:=.int .i64 (.lit 0)
abbrev z0:SC:=.bool (.lit false)
def mh:List (Nat × TI):=[(1,{d:=TD.fn,size:=1,bytes:=8,zero:=[SC.aQ]}),
  (2,{d:=TD.int IntKind.i64,size:=1,bytes:=8,zero:=[z6]}),
  (3,{d:=TD.int IntKind.i64,size:=1,bytes:=8,zero:=[z6]}),
  (4,{d:=TD.bool,size:=1,bytes:=1,zero:=[z0]}),
  (5,{d:=TD.int IntKind.u8,size:=1,bytes:=1,zero:=[SC.int IntKind.u8 (IE.lit (0))]}),
  (6,{d:=TD.int IntKind.u8,size:=1,bytes:=1,zero:=[SC.int IntKind.u8 (IE.lit (0))]}),
  (7,{d:=TD.struct [(0,2),(1,3),(2,4),(3,6)],size:=4,bytes:=24,zero:=[z6,z6,z0,SC.int IntKind.u8 (IE.lit (0))],eqs:=true}),
  (8,{d:=TD.struct [(0,2),(1,3),(2,4),(3,6)],size:=4,bytes:=24,zero:=[z6,z6,z0,SC.int IntKind.u8 (IE.lit (0))],eqs:=true}),
  (9,{d:=TD.str,size:=1,bytes:=16,zero:=[SC.str []]}),
  (10,{d:=TD.str,size:=1,bytes:=16,zero:=[SC.str []]}),
  (11,{d:=TD.str,size:=1,bytes:=16,zero:=[SC.str []]}),
  (12,{d:=TD.int IntKind.u64,size:=1,bytes:=8,zero:=[SC.int IntKind.u64 (IE.lit (0))]}),
  (13,{d:=TD.struct [(0,9),(1,12)],size:=2,bytes:=24,zero:=[SC.str [],SC.int IntKind.u64 (IE.lit (0))]}),
  (14,{d:=TD.struct [(0,9),(1,12)],size:=2,bytes:=24,zero:=[SC.str [],SC.int IntKind.u64 (IE.lit (0))]}),
  (15,{d:=TD.ptr 180,size:=1,bytes:=8,zero:=[SC.bL]}),
  (16,{d:=TD.ptr 183,size:=1,bytes:=8,zero:=[SC.bL]}),
  (17,{d:=TD.ptr 192,size:=1,bytes:=8,zero:=[SC.bL]}),
  (18,{d:=TD.struct [(0,17)],size:=1,bytes:=8,zero:=[SC.bL]}),
  (19,{d:=TD.struct [(0,17)],size:=1,bytes:=8,zero:=[SC.bL]}),
  (20,{d:=TD.qR,size:=1,bytes:=16,zero:=[SC.dB]}),
  (21,{d:=TD.int IntKind.i32,size:=1,bytes:=4,zero:=[SC.int IntKind.i32 (IE.lit (0))]}),
  (22,{d:=TD.sl 3,size:=1,bytes:=24,zero:=[SC.bU]}),
  (23,{d:=TD.fn,size:=1,bytes:=8,zero:=[SC.aQ]}),
  (24,{d:=TD.int IntKind.u64,size:=1,bytes:=8,zero:=[SC.int IntKind.u64 (IE.lit (0))]}),
  (25,{d:=TD.ptr 88,size:=1,bytes:=8,zero:=[SC.bL]}),
  (26,{d:=TD.qR,size:=1,bytes:=16,zero:=[SC.dB]}),
  (27,{d:=TD.qR,size:=1,bytes:=16,zero:=[SC.dB]}),
  (29,{d:=TD.fn,size:=1,bytes:=8,zero:=[SC.aQ]}),
  (30,{d:=TD.struct [(0,3),(1,3),(2,3),(3,3),(4,4)],size:=5,bytes:=40,zero:=[z6,z6,z6,z6,z0],eqs:=true}),
  (31,{d:=TD.struct [(0,3),(1,3),(2,3),(3,3),(4,4)],size:=5,bytes:=40,zero:=[z6,z6,z6,z6,z0],eqs:=true}),
  (32,{d:=TD.struct [(0,31),(5,4)],size:=6,bytes:=48,zero:=[z6,z6,z6,z6,z0,z0],eqs:=true}),
  (33,{d:=TD.struct [(0,31),(5,4)],size:=6,bytes:=48,zero:=[z6,z6,z6,z6,z0,z0],eqs:=true}),
  (35,{d:=TD.fn,size:=1,bytes:=8,zero:=[SC.aQ]}),
  (36,{d:=TD.struct [(0,3),(1,3),(2,3)],size:=3,bytes:=24,zero:=[z6,z6,z6],eqs:=true}),
  (37,{d:=TD.struct [(0,3),(1,3),(2,3)],size:=3,bytes:=24,zero:=[z6,z6,z6],eqs:=true}),
  (38,{d:=TD.struct [(0,3),(1,37),(4,31),(9,31)],size:=14,bytes:=112,zero:=[z6,z6,z6,z6,z6,z6,z6,z6,z0,z6,z6,z6,z6,z0],eqs:=true}),
  (39,{d:=TD.struct [(0,3),(1,37),(4,31),(9,31)],size:=14,bytes:=112,zero:=[z6,z6,z6,z6,z6,z6,z6,z6,z0,z6,z6,z6,z6,z0],eqs:=true}),
  (40,{d:=TD.fn,size:=1,bytes:=8,zero:=[SC.aQ]}),
  (41,{d:=TD.fn,size:=1,bytes:=8,zero:=[SC.aQ]}),
  (42,{d:=TD.sl 39,size:=1,bytes:=24,zero:=[SC.bU]}),
  (44,{d:=TD.fn,size:=1,bytes:=8,zero:=[SC.aQ]}),
  (45,{d:=TD.fn,size:=1,bytes:=8,zero:=[SC.aQ]}),
  (46,{d:=TD.sl 31,size:=1,bytes:=24,zero:=[SC.bU]}),
  (47,{d:=TD.fn,size:=1,bytes:=8,zero:=[SC.aQ]}),
  (48,{d:=TD.fn,size:=1,bytes:=8,zero:=[SC.aQ]}),
  (49,{d:=TD.arr 13 3,size:=13,bytes:=104,zero:=[z6,z6,z6,z6,z6,z6,z6,z6,z6,z6,z6,z6,z6],eqs:=true}),
  (50,{d:=TD.fn,size:=1,bytes:=8,zero:=[SC.aQ]}),
  (51,{d:=TD.fn,size:=1,bytes:=8,zero:=[SC.aQ]}),
  (52,{d:=TD.arr 4 3,size:=4,bytes:=32,zero:=[z6,z6,z6,z6],eqs:=true}),
  (53,{d:=TD.sl 56,size:=1,bytes:=24,zero:=[SC.bU]}),
  (55,{d:=TD.fn,size:=1,bytes:=8,zero:=[SC.aQ]}),
  (56,{d:=TD.ptr 60,size:=1,bytes:=8,zero:=[SC.bL]}),
  (57,{d:=TD.fn,size:=1,bytes:=8,zero:=[SC.aQ]}),
  (58,{d:=TD.ptr 111,size:=1,bytes:=8,zero:=[SC.bL]}),
  (59,{d:=TD.struct [(0,58),(1,3),(2,31),(7,31),(12,4),(13,4)],size:=14,bytes:=104,zero:=[SC.bL,z6,z6,z6,z6,z6,z0,z6,z6,z6,z6,z0,z0,z0],eqs:=true}),
  (60,{d:=TD.struct [(0,58),(1,3),(2,31),(7,31),(12,4),(13,4)],size:=14,bytes:=104,zero:=[SC.bL,z6,z6,z6,z6,z6,z0,z6,z6,z6,z6,z0,z0,z0],eqs:=true}),
  (61,{d:=TD.fn,size:=1,bytes:=8,zero:=[SC.aQ]}),
  (63,{d:=TD.fn,size:=1,bytes:=8,zero:=[SC.aQ]}),
  (64,{d:=TD.fn,size:=1,bytes:=8,zero:=[SC.aQ]}),
  (65,{d:=TD.arr 3 3,size:=3,bytes:=24,zero:=[z6,z6,z6],eqs:=true}),
  (66,{d:=TD.sl 82,size:=1,bytes:=24,zero:=[SC.bU]}),
  (67,{d:=TD.fn,size:=1,bytes:=8,zero:=[SC.aQ]}),
  (68,{d:=TD.fn,size:=1,bytes:=8,zero:=[SC.aQ]}),
  (69,{d:=TD.fn,size:=1,bytes:=8,zero:=[SC.aQ]}),
  (70,{d:=TD.struct [(0,3),(1,3)],size:=2,bytes:=16,zero:=[z6,z6],eqs:=true}),
  (71,{d:=TD.struct [(0,3),(1,3)],size:=2,bytes:=16,zero:=[z6,z6],eqs:=true}),
  (72,{d:=TD.struct [(0,3),(1,37),(4,31),(9,31),(14,3),(15,3),(16,71)],size:=18,bytes:=144,zero:=[z6,z6,z6,z6,z6,z6,z6,z6,z0,z6,z6,z6,z6,z0,z6,z6,z6,z6],eqs:=true}),
  (73,{d:=TD.struct [(0,3),(1,37),(4,31),(9,31),(14,3),(15,3),(16,71)],size:=18,bytes:=144,zero:=[z6,z6,z6,z6,z6,z6,z6,z6,z0,z6,z6,z6,z6,z0,z6,z6,z6,z6],eqs:=true}),
  (74,{d:=TD.fn,size:=1,bytes:=8,zero:=[SC.aQ]}),
  (76,{d:=TD.fn,size:=1,bytes:=8,zero:=[SC.aQ]}),
  (77,{d:=TD.arr 13 4,size:=13,bytes:=13,zero:=[z0,z0,z0,z0,z0,z0,z0,z0,z0,z0,z0,z0,z0],eqs:=true}),
  (79,{d:=TD.fn,size:=1,bytes:=8,zero:=[SC.aQ]}),
  (80,{d:=TD.fn,size:=1,bytes:=8,zero:=[SC.aQ]}),
  (81,{d:=TD.struct [(0,31),(5,3),(6,3)],size:=7,bytes:=56,zero:=[z6,z6,z6,z6,z0,z6,z6],eqs:=true}),
  (82,{d:=TD.struct [(0,31),(5,3),(6,3)],size:=7,bytes:=56,zero:=[z6,z6,z6,z6,z0,z6,z6],eqs:=true}),
  (84,{d:=TD.fn,size:=1,bytes:=8,zero:=[SC.aQ]}),
  (85,{d:=TD.fn,size:=1,bytes:=8,zero:=[SC.aQ]}),
  (86,{d:=TD.sl 95,size:=1,bytes:=24,zero:=[SC.bU]}),
  (87,{d:=TD.struct [(0,46),(1,86),(2,22),(3,3),(4,3),(5,27)],size:=6,bytes:=104,zero:=[SC.bU,SC.bU,SC.bU,z6,z6,SC.dB]}),
  (88,{d:=TD.struct [(0,46),(1,86),(2,22),(3,3),(4,3),(5,27)],size:=6,bytes:=104,zero:=[SC.bU,SC.bU,SC.bU,z6,z6,SC.dB]}),
  (89,{d:=TD.fn,size:=1,bytes:=8,zero:=[SC.aQ]}),
  (90,{d:=TD.fn,size:=1,bytes:=8,zero:=[SC.aQ]}),
  (91,{d:=TD.fn,size:=1,bytes:=8,zero:=[SC.aQ]}),
  (92,{d:=TD.fn,size:=1,bytes:=8,zero:=[SC.aQ]}),
  (93,{d:=TD.arr 10 31,size:=50,bytes:=400,zero:=[z6,z6,z6,z6,z0,z6,z6,z6,z6,z0,z6,z6,z6,z6,z0,z6,z6,z6,z6,z0,z6,z6,z6,z6,z0,z6,z6,z6,z6,z0,z6,z6,z6,z6,z0,z6,z6,z6,z6,z0,z6,z6,z6,z6,z0,z6,z6,z6,z6,z0],eqs:=true}),
  (94,{d:=TD.struct [(0,3),(1,4),(2,93)],size:=52,bytes:=416,zero:=[z6,z0,z6,z6,z6,z6,z0,z6,z6,z6,z6,z0,z6,z6,z6,z6,z0,z6,z6,z6,z6,z0,z6,z6,z6,z6,z0,z6,z6,z6,z6,z0,z6,z6,z6,z6,z0,z6,z6,z6,z6,z0,z6,z6,z6,z6,z0,z6,z6,z6,z6,z0],eqs:=true}),
  (95,{d:=TD.struct [(0,3),(1,4),(2,93)],size:=52,bytes:=416,zero:=[z6,z0,z6,z6,z6,z6,z0,z6,z6,z6,z6,z0,z6,z6,z6,z6,z0,z6,z6,z6,z6,z0,z6,z6,z6,z6,z0,z6,z6,z6,z6,z0,z6,z6,z6,z6,z0,z6,z6,z6,z6,z0,z6,z6,z6,z6,z0,z6,z6,z6,z6,z0],eqs:=true}),
  (96,{d:=TD.fn,size:=1,bytes:=8,zero:=[SC.aQ]}),
  (97,{d:=TD.ptr 31,size:=1,bytes:=8,zero:=[SC.bL]}),
  (98,{d:=TD.fn,size:=1,bytes:=8,zero:=[SC.aQ]}),
  (99,{d:=TD.fn,size:=1,bytes:=8,zero:=[SC.aQ]}),
  (100,{d:=TD.fn,size:=1,bytes:=8,zero:=[SC.aQ]}),
  (101,{d:=TD.fn,size:=1,bytes:=8,zero:=[SC.aQ]}),
  (102,{d:=TD.fn,size:=1,bytes:=8,zero:=[SC.aQ]}),
  (103,{d:=TD.fn,size:=1,bytes:=8,zero:=[SC.aQ]}),
  (104,{d:=TD.fn,size:=1,bytes:=8,zero:=[SC.aQ]}),
  (105,{d:=TD.struct [(0,73),(18,3),(19,39),(33,31),(38,31),(43,3),(44,46),(45,66)],size:=46,bytes:=400,zero:=[z6,z6,z6,z6,z6,z6,z6,z6,z0,z6,z6,z6,z6,z0,z6,z6,z6,z6,z6,z6,z6,z6,z6,z6,z6,z6,z6,z0,z6,z6,z6,z6,z0,z6,z6,z6,z6,z0,z6,z6,z6,z6,z0,z6,SC.bU,SC.bU],eqs:=true}),
  (106,{d:=TD.struct [(0,73),(18,3),(19,39),(33,31),(38,31),(43,3),(44,46),(45,66)],size:=46,bytes:=400,zero:=[z6,z6,z6,z6,z6,z6,z6,z6,z0,z6,z6,z6,z6,z0,z6,z6,z6,z6,z6,z6,z6,z6,z6,z6,z6,z6,z6,z0,z6,z6,z6,z6,z0,z6,z6,z6,z6,z0,z6,z6,z6,z6,z0,z6,SC.bU,SC.bU],eqs:=true}),
  (107,{d:=TD.arr 9 31,size:=45,bytes:=360,zero:=[z6,z6,z6,z6,z0,z6,z6,z6,z6,z0,z6,z6,z6,z6,z0,z6,z6,z6,z6,z0,z6,z6,z6,z6,z0,z6,z6,z6,z6,z0,z6,z6,z6,z6,z0,z6,z6,z6,z6,z0,z6,z6,z6,z6,z0],eqs:=true}),
  (108,{d:=TD.struct [(0,4),(1,3),(2,3)],size:=3,bytes:=24,zero:=[z0,z6,z6],eqs:=true}),
  (109,{d:=TD.struct [(0,4),(1,3),(2,3)],size:=3,bytes:=24,zero:=[z0,z6,z6],eqs:=true}),
  (110,{d:=TD.struct [(0,106),(46,3),(47,3),(48,3),(49,3),(50,107),(95,109),(98,66),(99,3),(100,33)],size:=106,bytes:=896,zero:=[z6,z6,z6,z6,z6,z6,z6,z6,z0,z6,z6,z6,z6,z0,z6,z6,z6,z6,z6,z6,z6,z6,z6,z6,z6,z6,z6,z0,z6,z6,z6,z6,z0,z6,z6,z6,z6,z0,z6,z6,z6,z6,z0,z6,SC.bU,SC.bU,z6,z6,z6,z6,z6,z6,z6,z6,z0,z6,z6,z6,z6,z0,z6,z6,z6,z6,z0,z6,z6,z6,z6,z0,z6,z6,z6,z6,z0,z6,z6,z6,z6,z0,z6,z6,z6,z6,z0,z6,z6,z6,z6,z0,z6,z6,z6,z6,z0,z0,z6,z6,SC.bU,z6,z6,z6,z6,z6,z0,z0],eqs:=true}),
  (111,{d:=TD.struct [(0,106),(46,3),(47,3),(48,3),(49,3),(50,107),(95,109),(98,66),(99,3),(100,33)],size:=106,bytes:=896,zero:=[z6,z6,z6,z6,z6,z6,z6,z6,z0,z6,z6,z6,z6,z0,z6,z6,z6,z6,z6,z6,z6,z6,z6,z6,z6,z6,z6,z0,z6,z6,z6,z6,z0,z6,z6,z6,z6,z0,z6,z6,z6,z6,z0,z6,SC.bU,SC.bU,z6,z6,z6,z6,z6,z6,z6,z6,z0,z6,z6,z6,z6,z0,z6,z6,z6,z6,z0,z6,z6,z6,z6,z0,z6,z6,z6,z6,z0,z6,z6,z6,z6,z0,z6,z6,z6,z6,z0,z6,z6,z6,z6,z0,z6,z6,z6,z6,z0,z0,z6,z6,SC.bU,z6,z6,z6,z6,z6,z0,z0],eqs:=true}),
  (112,{d:=TD.fn,size:=1,bytes:=8,zero:=[SC.aQ]}),
  (113,{d:=TD.fn,size:=1,bytes:=8,zero:=[SC.aQ]}),
  (114,{d:=TD.fn,size:=1,bytes:=8,zero:=[SC.aQ]}),
  (115,{d:=TD.fn,size:=1,bytes:=8,zero:=[SC.aQ]}),
  (116,{d:=TD.fn,size:=1,bytes:=8,zero:=[SC.aQ]}),
  (117,{d:=TD.fn,size:=1,bytes:=8,zero:=[SC.aQ]}),
  (118,{d:=TD.fn,size:=1,bytes:=8,zero:=[SC.aQ]}),
  (119,{d:=TD.ptr 122,size:=1,bytes:=8,zero:=[SC.bL]}),
  (120,{d:=TD.fn,size:=1,bytes:=8,zero:=[SC.aQ]}),
  (121,{d:=TD.struct [(0,3),(1,27)],size:=2,bytes:=24,zero:=[z6,SC.dB]}),
  (122,{d:=TD.struct [(0,3),(1,27)],size:=2,bytes:=24,zero:=[z6,SC.dB]}),
  (123,{d:=TD.qR,size:=1,bytes:=16,zero:=[SC.dB]}),
  (124,{d:=TD.qR,size:=1,bytes:=16,zero:=[SC.dB]}),
  (125,{d:=TD.fn,size:=1,bytes:=8,zero:=[SC.aQ]}),
  (126,{d:=TD.fn,size:=1,bytes:=8,zero:=[SC.aQ]}),
  (127,{d:=TD.ptr 95,size:=1,bytes:=8,zero:=[SC.bL]}),
  (128,{d:=TD.fn,size:=1,bytes:=8,zero:=[SC.aQ]}),
  (129,{d:=TD.fn,size:=1,bytes:=8,zero:=[SC.aQ]}),
  (130,{d:=TD.fn,size:=1,bytes:=8,zero:=[SC.aQ]}),
  (131,{d:=TD.fn,size:=1,bytes:=8,zero:=[SC.aQ]}),
  (132,{d:=TD.fn,size:=1,bytes:=8,zero:=[SC.aQ]}),
  (133,{d:=TD.fn,size:=1,bytes:=8,zero:=[SC.aQ]}),
  (134,{d:=TD.fn,size:=1,bytes:=8,zero:=[SC.aQ]}),
  (135,{d:=TD.fn,size:=1,bytes:=8,zero:=[SC.aQ]}),
  (136,{d:=TD.fn,size:=1,bytes:=8,zero:=[SC.aQ]}),
  (137,{d:=TD.sl 109,size:=1,bytes:=24,zero:=[SC.bU]}),
  (138,{d:=TD.fn,size:=1,bytes:=8,zero:=[SC.aQ]}),
  (139,{d:=TD.fn,size:=1,bytes:=8,zero:=[SC.aQ]}),
  (140,{d:=TD.fn,size:=1,bytes:=8,zero:=[SC.aQ]}),
  (141,{d:=TD.fn,size:=1,bytes:=8,zero:=[SC.aQ]}),
  (142,{d:=TD.ptr 119,size:=1,bytes:=8,zero:=[SC.bL]}),
  (143,{d:=TD.struct [(0,17)],size:=1,bytes:=8,zero:=[SC.bL]}),
  (144,{d:=TD.struct [(0,17)],size:=1,bytes:=8,zero:=[SC.bL]}),
  (145,{d:=TD.ptr 196,size:=1,bytes:=8,zero:=[SC.bL]}),
  (146,{d:=TD.qR,size:=1,bytes:=16,zero:=[SC.dB]}),
  (148,{d:=TD.fn,size:=1,bytes:=8,zero:=[SC.aQ]}),
  (149,{d:=TD.qR,size:=1,bytes:=16,zero:=[SC.dB]}),
  (150,{d:=TD.qR,size:=1,bytes:=16,zero:=[SC.dB]}),
  (151,{d:=TD.sl 27,size:=1,bytes:=24,zero:=[SC.bU]}),
  (152,{d:=TD.fn,size:=1,bytes:=8,zero:=[SC.aQ]}),
  (153,{d:=TD.fn,size:=1,bytes:=8,zero:=[SC.aQ]}),
  (155,{d:=TD.fn,size:=1,bytes:=8,zero:=[SC.aQ]}),
  (156,{d:=TD.fn,size:=1,bytes:=8,zero:=[SC.aQ]}),
  (157,{d:=TD.fn,size:=1,bytes:=8,zero:=[SC.aQ]}),
  (158,{d:=TD.fn,size:=1,bytes:=8,zero:=[SC.aQ]}),
  (159,{d:=TD.fn,size:=1,bytes:=8,zero:=[SC.aQ]}),
  (160,{d:=TD.other,size:=1,bytes:=8,zero:=[SC.bL]}),
  (161,{d:=TD.int IntKind.u64,size:=1,bytes:=8,zero:=[SC.int IntKind.u64 (IE.lit (0))]}),
  (162,{d:=TD.struct [(0,17),(1,160),(2,161)],size:=3,bytes:=24,zero:=[SC.bL,SC.bL,SC.int IntKind.u64 (IE.lit (0))]}),
  (163,{d:=TD.struct [(0,17),(1,160),(2,161)],size:=3,bytes:=24,zero:=[SC.bL,SC.bL,SC.int IntKind.u64 (IE.lit (0))]}),
  (164,{d:=TD.fn,size:=1,bytes:=8,zero:=[SC.aQ]}),
  (165,{d:=TD.fn,size:=1,bytes:=8,zero:=[SC.aQ]}),
  (166,{d:=TD.int IntKind.u8,size:=1,bytes:=1,zero:=[SC.int IntKind.u8 (IE.lit (0))]}),
  (167,{d:=TD.fn,size:=1,bytes:=8,zero:=[SC.aQ]}),
  (168,{d:=TD.fn,size:=1,bytes:=8,zero:=[SC.aQ]}),
  (169,{d:=TD.fn,size:=1,bytes:=8,zero:=[SC.aQ]}),
  (170,{d:=TD.fn,size:=1,bytes:=8,zero:=[SC.aQ]}),
  (171,{d:=TD.fn,size:=1,bytes:=8,zero:=[SC.aQ]}),
  (172,{d:=TD.fn,size:=1,bytes:=8,zero:=[SC.aQ]}),
  (173,{d:=TD.fn,size:=1,bytes:=8,zero:=[SC.aQ]}),
  (174,{d:=TD.qR,size:=1,bytes:=16,zero:=[SC.dB]}),
  (176,{d:=TD.fn,size:=1,bytes:=8,zero:=[SC.aQ]}),
  (177,{d:=TD.ptr 198,size:=1,bytes:=8,zero:=[SC.bL]}),
  (178,{d:=TD.fn,size:=1,bytes:=8,zero:=[SC.aQ]}),
  (179,{d:=TD.struct [(0,17),(1,17),(2,17),(3,9)],size:=4,bytes:=40,zero:=[SC.bL,SC.bL,SC.bL,SC.str []]}),
  (180,{d:=TD.struct [(0,17),(1,17),(2,17),(3,9)],size:=4,bytes:=40,zero:=[SC.bL,SC.bL,SC.bL,SC.str []]}),
  (181,{d:=TD.arr 0 16,size:=0,bytes:=0,zero:=[],eqs:=true}),
  (182,{d:=TD.struct [(0,181)],size:=0,bytes:=0,zero:=[]}),
  (183,{d:=TD.struct [(0,181)],size:=0,bytes:=0,zero:=[]}),
  (184,{d:=TD.fn,size:=1,bytes:=8,zero:=[SC.aQ]}),
  (185,{d:=TD.int IntKind.u32,size:=1,bytes:=4,zero:=[SC.int IntKind.u32 (IE.lit (0))]}),
  (186,{d:=TD.int IntKind.u8,size:=1,bytes:=1,zero:=[SC.int IntKind.u8 (IE.lit (0))]}),
  (187,{d:=TD.fn,size:=1,bytes:=8,zero:=[SC.aQ]}),
  (188,{d:=TD.ptr 5,size:=1,bytes:=8,zero:=[SC.bL]}),
  (189,{d:=TD.int IntKind.i32,size:=1,bytes:=4,zero:=[SC.int IntKind.i32 (IE.lit (0))]}),
  (190,{d:=TD.int IntKind.i32,size:=1,bytes:=4,zero:=[SC.int IntKind.i32 (IE.lit (0))]}),
  (191,{
      d:=TD.struct
          [(0,12),(1,12),(2,185),(3,186),(4,5),(5,5),(6,166),(7,187),(8,188),(9,189),(10,190)],size:=11,bytes:=48,zero:=[SC.int IntKind.u64 (IE.lit (0)),SC.int IntKind.u64 (IE.lit (0)),SC.int IntKind.u32 (IE.lit (0)),SC.int IntKind.u8 (IE.lit (0)),SC.int IntKind.u8 (IE.lit (0)),SC.int IntKind.u8 (IE.lit (0)),SC.int IntKind.u8 (IE.lit (0)),SC.aQ,SC.bL,SC.int IntKind.i32 (IE.lit (0)),SC.int IntKind.i32 (IE.lit (0))]}),
  (192,{
      d:=TD.struct
          [(0,12),(1,12),(2,185),(3,186),(4,5),(5,5),(6,166),(7,187),(8,188),(9,189),(10,190)],size:=11,bytes:=48,zero:=[SC.int IntKind.u64 (IE.lit (0)),SC.int IntKind.u64 (IE.lit (0)),SC.int IntKind.u32 (IE.lit (0)),SC.int IntKind.u8 (IE.lit (0)),SC.int IntKind.u8 (IE.lit (0)),SC.int IntKind.u8 (IE.lit (0)),SC.int IntKind.u8 (IE.lit (0)),SC.aQ,SC.bL,SC.int IntKind.i32 (IE.lit (0)),SC.int IntKind.i32 (IE.lit (0))]}),
  (193,{d:=TD.fn,size:=1,bytes:=8,zero:=[SC.aQ]}),
  (194,{d:=TD.fn,size:=1,bytes:=8,zero:=[SC.aQ]}),
  (195,{d:=TD.struct [(0,9),(1,166)],size:=2,bytes:=24,zero:=[SC.str [],SC.int IntKind.u8 (IE.lit (0))]}),
  (196,{d:=TD.struct [(0,9),(1,166)],size:=2,bytes:=24,zero:=[SC.str [],SC.int IntKind.u8 (IE.lit (0))]}),
  (197,{d:=TD.struct [(0,9)],size:=1,bytes:=16,zero:=[SC.str []],eqs:=true}),
  (198,{d:=TD.struct [(0,9)],size:=1,bytes:=16,zero:=[SC.str []],eqs:=true}),
  (199,{d:=TD.ptr 203,size:=1,bytes:=8,zero:=[SC.bL]}),
  (200,{d:=TD.fn,size:=1,bytes:=8,zero:=[SC.aQ]}),
  (201,{d:=TD.int IntKind.u16,size:=1,bytes:=2,zero:=[SC.int IntKind.u16 (IE.lit (0))]}),
  (202,{d:=TD.struct [(0,189),(1,201),(2,201),(3,185),(4,185)],size:=5,bytes:=16,zero:=[SC.int IntKind.i32 (IE.lit (0)),SC.int IntKind.u16 (IE.lit (0)),SC.int IntKind.u16 (IE.lit (0)),SC.int IntKind.u32 (IE.lit (0)),SC.int IntKind.u32 (IE.lit (0))]}),
  (203,{d:=TD.struct [(0,189),(1,201),(2,201),(3,185),(4,185)],size:=5,bytes:=16,zero:=[SC.int IntKind.i32 (IE.lit (0)),SC.int IntKind.u16 (IE.lit (0)),SC.int IntKind.u16 (IE.lit (0)),SC.int IntKind.u32 (IE.lit (0)),SC.int IntKind.u32 (IE.lit (0))]}),
  (204,{d:=TD.sl 207,size:=1,bytes:=24,zero:=[SC.bU]}),
  (205,{d:=TD.int IntKind.i32,size:=1,bytes:=4,zero:=[SC.int IntKind.i32 (IE.lit (0))]}),
  (206,{d:=TD.struct [(0,189),(1,190),(2,205),(3,205)],size:=4,bytes:=16,zero:=[SC.int IntKind.i32 (IE.lit (0)),SC.int IntKind.i32 (IE.lit (0)),SC.int IntKind.i32 (IE.lit (0)),SC.int IntKind.i32 (IE.lit (0))]}),
  (207,{d:=TD.struct [(0,189),(1,190),(2,205),(3,205)],size:=4,bytes:=16,zero:=[SC.int IntKind.i32 (IE.lit (0)),SC.int IntKind.i32 (IE.lit (0)),SC.int IntKind.i32 (IE.lit (0)),SC.int IntKind.i32 (IE.lit (0))]}),
  (208,{d:=TD.fn,size:=1,bytes:=8,zero:=[SC.aQ]}),
  (209,{d:=TD.ptr 27,size:=1,bytes:=8,zero:=[SC.bL]})]
noncomputable def tab:bq:={mh:=mh,fns:=[(3,Tryd.f3),(4,Tryd.f4),(5,Tryd.f5),(6,Tryd.f6),(7,Tryd.f7),(8,Tryd.f8),(9,Tryd.f9),(10,Tryd.f10),(11,Tryd.f11),(12,Tryd.f12),(13,Tryd.f13),(14,Tryd.f14),(15,Tryd.f15),(16,Tryd.f16),(17,Tryd.f17),(18,Tryd.f18),(19,Tryd.f19),(20,Tryd.f20),(21,Tryd.f21),(22,Tryd.f22),(23,Tryd.f23),(24,Tryd.f24),(25,Tryd.f25),(26,Tryd.f26),(27,Tryd.f27),(28,Tryd.f28),(29,Tryd.f29),(30,Tryd.f30),(31,Tryd.f31),(32,Tryd.f32),(33,Tryd.f33),(34,Tryd.f34),(35,Tryd.f35),(36,Tryd.f36),(37,Tryd.f37),(38,Tryd.f38),(39,Tryd.f39),(40,Tryd.f40),(41,Tryd.f41),(42,Tryd.f42),(43,Tryd.f43),(44,Tryd.f44),(45,Tryd.f45),(46,Tryd.f46),(47,Tryd.f47),(48,Tryd.f48),(49,Tryd.f49),(50,Tryd.f50),(51,Tryd.f51),(52,Tryd.f52),(53,Tryd.f53),(54,Tryd.f54),(55,Tryd.f55),(56,Tryd.f56),(57,Tryd.f57),(58,Tryd.f58),(59,Tryd.f59),(60,Tryd.f60),(61,Tryd.f61),(62,Tryd.f62),(63,Tryd.f63),(65,Tryd.f65),(66,Tryd.f66),(67,Tryd.f67),(68,Tryd.f68),(69,Tryd.f69),(70,Tryd.f70),(71,Tryd.f71),(72,Tryd.f72),(73,Tryd.f73),(74,Tryd.f74),(75,Tryd.f75),(76,Tryd.f76),(77,Tryd.f77),(78,Tryd.f78),(79,Tryd.f79),(80,Tryd.f80),(81,Tryd.f81),(82,Tryd.f82),(83,Tryd.f83),(84,Tryd.f84),(85,Tryd.f85),(86,Tryd.f86),(87,Tryd.f87),(88,Tryd.f88),(89,Tryd.f89),(90,Tryd.f90),(91,Tryd.f91),(92,Tryd.f92),(93,Tryd.f93),(94,Tryd.f94),(95,Tryd.f95),(96,Tryd.f96),(97,Tryd.f97),(101,Tryd.f101),(102,Tryd.f102),(103,Tryd.f103),(104,Tryd.f104),(105,Tryd.f105),(106,Tryd.f106)],wraps:=[]}
set_option maxRecDepth 100000 in
theorem eQ:dE Tryd.prog tab where
  mh:=by kernel_rfl
  fns:=OP (P:=Tryd.prog) (l:=tab.fns) ⟨rfl,rfl,rfl,rfl,rfl,rfl,rfl,rfl,rfl,rfl,rfl,rfl,rfl,rfl,rfl,rfl,rfl,rfl,rfl,rfl,rfl,rfl,rfl,rfl,rfl,rfl,rfl,rfl,rfl,rfl,rfl,rfl,rfl,rfl,rfl,rfl,rfl,rfl,rfl,rfl,rfl,rfl,rfl,rfl,rfl,rfl,rfl,rfl,rfl,rfl,rfl,rfl,rfl,rfl,rfl,rfl,rfl,rfl,rfl,rfl,rfl,rfl,rfl,rfl,rfl,rfl,rfl,rfl,rfl,rfl,rfl,rfl,rfl,rfl,rfl,rfl,rfl,rfl,rfl,rfl,rfl,rfl,rfl,rfl,rfl,rfl,rfl,rfl,rfl,rfl,rfl,rfl,rfl,rfl,rfl,rfl,rfl,rfl,rfl,rfl,trivial⟩
  mixed:=by kernel_rfl
def sched:List ((FuncId × List Nat) × fC) :=
  [((3,[1,1,1,1,1,1,1,1,0,1,0,0,1,0,0,1,0]),.take 0 0<|.take 2 0<|.take 3 0<|.take 4 0<|.take 1 128<|.solo 5<|.solo 6<|.solo 7<|.nil none),
  ((5,[1,1,1,1,1,0,1,0,0,1,0,0]),.take 0 0<|.take 1 0<|.take 2 0<|.take 4 0<|.take 6 0<|.take 7 0<|.take 8 0<|.take 3 3104<|.take 5 0<|.solo 9<|.solo 10<|.solo 11<|.drop<|.nil (some 11)),
  ((6,[1,1,1,1,1,1,1,1,0,1,0,0,1,0,0,1,1,1,0,1,0,1,1,0,1,0,0,1,0,0,0]),.take 0 0<|.take 1 0<|.take 2 0<|.take 4 0<|.take 3 64<|.solo 5<|.solo 6<|.nil none),
  ((6,[1,1,1,1,1,1,1,1,0,1,0,0,1,0,0,1,1,1,1,1,0,1,0,1,0,0]),.take 0 0<|.take 1 0<|.take 3 0<|.take 4 0<|.take 2 64<|.solo 5<|.solo 6<|.nil none),
  ((12,[1,1,1,1,1,1,1,1,1,0]),.take 0 0<|.take 2 0<|.solo 1<|.solo 3<|.solo 4<|.solo 5<|.solo 6<|.solo 7<|.solo 8<|.take 9 0<|.take 11 0<|.solo 10<|.solo 12<|.solo 13<|.solo 14<|.take 16 0<|.take 17 0<|.solo 15<|.solo 18<|.solo 19<|.solo 20<|.take 21 0<|.solo 22<|.solo 23<|.solo 24<|.solo 25<|.take 26 0<|.take 28 18014397972611072<|.solo 27<|.solo 29<|.drop<|.solo 30<|.solo 31<|.solo 32<|.solo 33<|.solo 34<|.solo 35<|.solo 36<|.solo 37<|.solo 38<|.solo 39<|.solo 40<|.solo 41<|.solo 42<|.solo 43<|.solo 44<|.solo 45<|.solo 46<|.solo 47<|.solo 48<|.solo 49<|.solo 50<|.solo 51<|.solo 52<|.solo 53<|.nil (some 29)),
  ((13,[1,0,1,0,0]),.take 1 0<|.solo 0<|.solo 2<|.nil none),
  ((13,[1,1,0]),.take 0 0<|.take 2 0<|.alt 1 (.solo 3<|.solo 4<|.solo 5<|.solo 6<|.nil none) 3 (.solo 1<|.solo 4<|.solo 5<|.solo 6<|.nil none)),
  ((14,[1,0,1,0,0]),.take 0 0<|.take 1 8<|.solo 2<|.solo 3<|.nil none),
  ((14,[1,1,0,1,0,0]),.take 0 0<|.take 1 8<|.solo 2<|.solo 3<|.nil none),
  ((14,[1,1,1,1,1,0,1,0,1,1,1,0,0]),.take 0 0<|.take 1 0<|.take 2 0<|.take 4 0<|.take 5 0<|.take 3 1792<|.solo 6<|.solo 7<|.solo 8<|.solo 9<|.solo 10<|.drop<|.nil (some 10)),
  ((14,[1,1,1,1,1,0,1,0,1,1,1,0,1,0]),.take 0 0<|.take 1 0<|.take 2 0<|.take 3 0<|.take 5 0<|.take 6 0<|.take 4 7680<|.solo 7<|.solo 8<|.solo 9<|.drop<|.solo 10<|.solo 11<|.solo 12<|.nil (some 9)),
  ((14,[1,1,1,1,1,1,0]),.take 0 0<|.take 1 0<|.take 2 232<|.take 4 224<|.solo 3<|.solo 5<|.drop<|.solo 6<|.solo 7<|.nil (some 5)),
  ((15,[1,1,0]),.take 0 0<|.take 1 0<|.take 2 0<|.take 5 0<|.take 6 0<|.take 7 0<|.take 3 3088<|.take 4 0<|.solo 8<|.solo 9<|.solo 10<|.solo 11<|.nil none),
  ((20,[1,1,1,1,1,1,1,1,1,1,1,1,1,1,0]),.solo 0<|.solo 1<|.solo 2<|.take 3 549755813824<|.solo 4<|.solo 5<|.solo 6<|.solo 7<|.solo 8<|.take 9 549755797504<|.take 10 549755805696<|.solo 11<|.solo 12<|.solo 13<|.solo 14<|.solo 15<|.solo 16<|.take 17 549755289600<|.solo 18<|.solo 19<|.solo 20<|.solo 21<|.solo 22<|.solo 23<|.solo 24<|.solo 25<|.solo 26<|.take 27 0<|.take 29 548682072064<|.take 30 0<|.solo 28<|.solo 31<|.solo 32<|.solo 33<|.take 34 0<|.solo 35<|.solo 36<|.drop<|.solo 37<|.solo 38<|.nil (some 36)),
  ((22,[1,0,1,0,0,1,0,0,1,0]),.take 0 0<|.take 1 0<|.take 2 0<|.take 4 0<|.take 3 192<|.solo 5<|.solo 6<|.drop<|.solo 7<|.nil (some 6)),
  ((22,[1,1,1,1,1,0]),.solo 0<|.solo 1<|.solo 2<|.take 3 0<|.take 4 0<|.take 5 0<|.take 6 3840<|.solo 7<|.solo 8<|.drop<|.solo 9<|.solo 10<|.solo 11<|.nil (some 8)),
  ((30,[1,0,1,0,0]),.take 1 0<|.solo 0<|.solo 2<|.nil none),
  ((41,[1,1,0]),.take 0 0<|.take 1 0<|.take 2 0<|.take 4 0<|.take 5 0<|.take 6 0<|.take 3 7168<|.solo 7<|.solo 8<|.solo 9<|.solo 10<|.solo 11<|.solo 12<|.nil none),
  ((41,[1,1,1,0]),.take 0 0<|.take 1 0<|.take 2 0<|.take 3 0<|.take 5 0<|.take 6 0<|.take 7 0<|.take 4 30720<|.solo 8<|.solo 9<|.solo 10<|.solo 11<|.solo 12<|.solo 13<|.solo 14<|.drop<|.nil (some 14)),
  ((42,[1,1,0,1,0,0,0,1,1,0]),.take 0 0<|.take 1 0<|.take 3 0<|.take 2 96<|.solo 4<|.solo 5<|.drop<|.solo 6<|.nil (some 5)),
  ((43,[1,0,1,0,0]),.take 0 0<|.take 1 0<|.take 2 0<|.take 4 0<|.take 3 192<|.solo 5<|.solo 6<|.solo 7<|.nil none),
  ((43,[1,1,0]),.take 0 0<|.take 1 0<|.take 2 0<|.take 4 0<|.take 7 0<|.take 3 7680<|.take 5 7744<|.take 6 0<|.take 9 0<|.take 10 0<|.solo 8<|.solo 11<|.solo 12<|.nil none),
  ((44,[1,0,1,0,0]),.solo 0<|.solo 1<|.solo 2<|.solo 3<|.solo 4<|.solo 5<|.solo 6<|.solo 7<|.solo 8<|.take 9 0<|.take 11 0<|.take 12 0<|.take 13 0<|.take 10 458752<|.solo 14<|.solo 15<|.solo 16<|.solo 17<|.solo 18<|.nil none),
  ((50,[1,1,1,1,0,1,0,1,1,1,1,1,1,1,0,0]),.take 0 0<|.solo 1<|.solo 2<|.solo 3<|.solo 4<|.solo 5<|.solo 6<|.solo 7<|.solo 8<|.solo 9<|.solo 10<|.solo 11<|.solo 12<|.take 13 0<|.take 14 0<|.take 16 0<|.take 17 0<|.take 18 0<|.take 15 132120576<|.solo 19<|.solo 20<|.solo 21<|.solo 22<|.solo 23<|.solo 24<|.solo 25<|.solo 26<|.drop<|.nil (some 26)),
  ((50,[1,1,1,1,0,1,0,1,1,1,1,1,1,1,1,1,0,1,1,0]),.take 0 0<|.take 1 0<|.take 2 0<|.take 5 0<|.take 6 0<|.take 7 0<|.take 3 7696<|.take 8 7680<|.solo 4<|.solo 9<|.drop<|.solo 10<|.solo 11<|.solo 12<|.nil (some 9)),
  ((50,[1,1,1,1,0,1,0,1,1,1,1,1,1,1,1,1,1,1,0,0]),.take 1 0<|.take 2 0<|.take 3 0<|.take 5 0<|.take 6 0<|.take 7 0<|.take 9 0<|.take 10 0<|.take 11 0<|.take 0 49152<|.take 4 49152<|.take 8 57344<|.solo 12<|.solo 13<|.solo 14<|.solo 15<|.drop<|.nil (some 15)),
  ((53,[1,1,0,1,1,1,1,1,1,1,1,1,1,1,1,1,0,0]),.solo 0<|.solo 1<|.solo 2<|.take 3 0<|.take 4 0<|.take 6 0<|.take 7 0<|.take 10 0<|.take 11 0<|.take 13 0<|.take 14 0<|.take 5 393984<|.take 8 0<|.take 9 393216<|.solo 12<|.solo 15<|.solo 16<|.solo 17<|.solo 18<|.nil none),
  ((53,[1,1,0,1,1,1,1,1,1,1,1,1,1,1,1,1,0,1,0]),.take 0 0<|.take 1 0<|.take 3 0<|.take 4 0<|.take 6 0<|.take 7 0<|.take 2 1024<|.solo 5<|.solo 8<|.solo 9<|.solo 10<|.drop<|.nil (some 10)),
  ((58,[1]),.take 0 0<|.take 1 0<|.take 2 0<|.take 4 0<|.take 5 0<|.take 6 0<|.take 3 3840<|.solo 7<|.solo 8<|.solo 9<|.solo 10<|.solo 11<|.drop<|.nil (some 11)),
  ((60,[1,1,1,0,1,1,1,0,1,1,0,0]),.solo 0<|.solo 1<|.solo 2<|.solo 3<|.solo 4<|.solo 5<|.solo 6<|.solo 7<|.solo 8<|.solo 9<|.solo 10<|.solo 11<|.solo 12<|.solo 13<|.solo 14<|.take 15 0<|.take 16 0<|.take 17 0<|.take 18 0<|.take 19 0<|.take 21 0<|.take 22 0<|.take 23 0<|.take 24 0<|.take 20 402653184<|.solo 25<|.solo 26<|.solo 27<|.solo 28<|.nil none),
  ((61,[1,1,0,0,0,1,1,0]),.take 0 0<|.take 1 0<|.take 2 0<|.take 3 0<|.take 4 0<|.take 5 0<|.take 7 0<|.take 8 0<|.take 9 0<|.take 10 0<|.take 11 0<|.take 6 8192<|.solo 12<|.solo 13<|.drop<|.nil (some 13)),
  ((62,[1,1,0,0,0,0,0,0,0,1,0]),.take 0 0<|.take 1 0<|.take 2 0<|.take 3 0<|.take 4 0<|.take 6 0<|.take 5 15872<|.solo 7<|.solo 8<|.solo 9<|.drop<|.solo 10<|.solo 11<|.solo 12<|.solo 13<|.nil (some 9)),
  ((62,[1,1,0,0,0,0,0,0,0,1,1,1,1,0]),.take 0 0<|.take 1 0<|.take 2 0<|.take 3 0<|.take 4 0<|.take 6 0<|.take 5 256<|.solo 7<|.solo 8<|.drop<|.nil (some 8)),
  ((62,[1,1,0,1,0,0]),.take 0 0<|.take 1 0<|.take 2 0<|.take 4 0<|.take 5 0<|.take 6 0<|.take 7 0<|.take 3 6144<|.solo 8<|.solo 9<|.solo 10<|.solo 11<|.drop<|.solo 12<|.nil (some 11)),
  ((74,[1,0]),.take 0 0<|.take 1 0<|.take 3 0<|.take 4 0<|.solo 2<|.solo 5<|.solo 6<|.nil none),
  ((79,[]),.take 0 0<|.take 1 0<|.take 2 0<|.take 3 0<|.take 5 0<|.take 6 0<|.take 7 0<|.take 8 0<|.take 9 0<|.take 12 0<|.take 13 0<|.take 4 983040<|.solo 10<|.solo 11<|.solo 14<|.solo 15<|.solo 16<|.drop<|.solo 17<|.solo 18<|.solo 19<|.nil (some 16)),
  ((80,[]),.take 0 0<|.take 1 0<|.take 3 0<|.take 4 0<|.take 5 0<|.take 6 0<|.take 8 0<|.take 9 0<|.take 10 0<|.take 11 0<|.take 7 49152<|.take 12 57344<|.solo 2<|.solo 13<|.solo 14<|.solo 15<|.drop<|.nil (some 15)),
  ((81,[0]),.take 0 0<|.take 1 0<|.take 2 0<|.take 5 0<|.take 6 0<|.take 7 0<|.take 3 528<|.take 4 0<|.solo 8<|.solo 9<|.nil none),
  ((83,[0,1,0,1,0]),.take 0 0<|.take 1 0<|.take 2 0<|.take 3 0<|.take 5 0<|.take 6 0<|.take 7 0<|.take 8 0<|.take 4 261120<|.solo 9<|.solo 10<|.drop<|.solo 11<|.take 12 0<|.take 13 0<|.solo 14<|.solo 15<|.solo 16<|.solo 17<|.nil (some 10)),
  ((83,[0,1,0,1,1,1,1,1,0]),.take 0 0<|.take 1 0<|.take 2 0<|.take 3 0<|.take 5 0<|.take 4 32640<|.solo 6<|.solo 7<|.drop<|.solo 8<|.take 9 0<|.take 10 0<|.solo 11<|.solo 12<|.solo 13<|.solo 14<|.nil (some 7)),
  ((83,[0,1,0,1,1,1,1,1,1,1,0]),.take 0 0<|.take 1 0<|.take 2 0<|.take 3 0<|.take 5 0<|.take 6 0<|.take 7 0<|.take 8 0<|.take 9 0<|.take 4 522240<|.solo 10<|.solo 11<|.drop<|.solo 12<|.take 13 0<|.take 14 0<|.solo 15<|.solo 16<|.solo 17<|.solo 18<|.nil (some 11)),
  ((86,[1,0,1,0,0,1,1,0,0,1,0]),.take 1 0<|.take 2 0<|.take 3 0<|.take 0 32<|.solo 4<|.solo 5<|.nil none),
  ((87,[1,1,1,1,0]),.take 0 0<|.take 1 0<|.take 2 0<|.take 3 0<|.solo 4<|.solo 5<|.solo 6<|.solo 7<|.nil none)]
def infos:List (List OI) :=
  [[⟨0,131072,some 112⟩,⟨1,5192296858534827628530496329220096,some 113⟩,⟨0,2048,some 114⟩,⟨0,65536,some 115⟩,⟨12,62307562302417931542365955950641152,some 116⟩,⟨16,83076749736557242056487941267521536,some 117⟩,⟨32,166153499473114484112975882535043072,some 118⟩,⟨66,342691592663298623483012757728526336,some 119⟩],
  [⟨0,32,some 45⟩,⟨0,128,some 46⟩,⟨2,70368744177664,some 47⟩,⟨4,140737488355328,some 48⟩,⟨0,512,some 49⟩,⟨24,844424930131968,some 50⟩,⟨0,1,some 51⟩,⟨0,512,some 52⟩,⟨192,6755399441055744,some 53⟩,⟨256,9007199254740992,some 54⟩,⟨544,19140298416324608,some 55⟩,⟨1025,36063981391052800,some 56⟩],
  [⟨0,128,some 87⟩,⟨0,32768,some 88⟩,⟨3,464227514732017603087171584,some 89⟩,⟨4,618970019642690137449562112,some 90⟩,⟨0,4096,some 91⟩,⟨16,2475880078570760549798248448,some 92⟩,⟨40,6189700196426901374495621120,some 93⟩],
  [⟨0,65536,some 129⟩,⟨1,680564733841876926926749214863536423168,some 130⟩,⟨2,1361129467683753853853498429727072845824,some 131⟩,⟨0,2048,some 132⟩,⟨8,5444517870735015415413993718908291383296,some 133⟩,⟨16,10889035741470030830827987437816582766592,some 134⟩,⟨36,24500330418307569369362971735087311224832,some 135⟩],
  [⟨0,8,some 66⟩,⟨1,73786976294838206464,some 67⟩,⟨0,0,some 68⟩,⟨6,442721857769029238784,some 69⟩,⟨8,590295810358705651712,some 70⟩,⟨16,1180591620717411303456,some 71⟩,⟨48,3541774862152233910272,some 72⟩,⟨80,5902958103587056517120,some 73⟩,⟨144,9444732965739290427392,some 74⟩,⟨256,18889465931478580854912,some 75⟩,⟨768,56668397794435742564352,some 76⟩,⟨256,18889465931478580854784,some 77⟩,⟨3328,245563057109221551112192,some 78⟩,⟨4352,321120920835135874531328,some 79⟩,⟨8448,604462909807314587353088,some 80⟩,⟨16384,1208925819614629174706688,some 81⟩,⟨16384,1208925819614629174706176,some 82⟩,⟨81920,6044629098073145873530880,some 83⟩,⟨180224,13298184015760920921767936,some 84⟩,⟨278528,20551738933448695970004992,some 85⟩,⟨540672,38685626227668133590597632,some 86⟩,⟨1048576,77371252455336267181199360,some 87⟩,⟨1048576,77371252455336267181195264,some 88⟩,⟨7340032,541598767187353870268366848,some 89⟩,⟨9437184,696341272098026404630757376,some 90⟩,⟨25165824,1237940039285380274899124224,some 91⟩,⟨33554432,2475880078570760549798248450,some 92⟩,⟨100663296,7427640235712281649394745344,some 93⟩,⟨33554432,2475880078570760549798248448,some 94⟩,⟨436207616,32186441021419887147377229824,some 95⟩,⟨570425344,42089961335702929346570223616,some 96⟩,⟨1610612736,79228162514264337593543950336,some 97⟩,⟨2147483648,158456325028528675187087908864,some 98⟩,⟨6442450944,475368975085586025561263702016,some 99⟩,⟨10737418240,792281625142643375935439503360,some 100⟩,⟨19327352832,1267650600228229401496703205376,some 101⟩,⟨34359738368,2535301200456458802993406427136,some 102⟩,⟨103079215104,7605903601369376408980219232256,some 103⟩,⟨171798691840,10141204801825835211973625643008,some 104⟩,⟨274877906944,20282409603651670423947251286018,some 105⟩,⟨824633720832,60847228810955011271841753858048,some 106⟩,⟨1374389534720,101412048018258352119736256430080,some 107⟩,⟨2473901162496,182541686432865033815525261574144,some 108⟩,⟨5497558138880,324518553658426726783156020576256,some 109⟩,⟨8796093022208,649037107316853453566312041152514,some 110⟩,⟨26388279066624,1947111321950560360698936123457536,some 111⟩,⟨43980465111040,3245185536584267267831560205762560,some 112⟩,⟨79164837199872,5841333965851681082096808370372608,some 113⟩,⟨175921860444160,10384593717069655257060992658440192,some 114⟩,⟨281474976710656,20769187434139310514121985316880386,some 115⟩,⟨844424930131968,62307562302417931542365955950641152,some 116⟩,⟨1407374883553280,103845937170696552570609926584401920,some 117⟩,⟨2533274790395904,186922686907253794627097867851923456,some 118⟩,⟨9007199254740991,332306998946228968225951765070086144,some 0⟩],
  [⟨0,0,some 22⟩,⟨0,0,some 4⟩,⟨3,4194304,some 5⟩],
  [⟨0,2,some 23⟩,⟨1,8388608,some 24⟩,⟨0,1,some 25⟩,⟨4,33554432,some 26⟩,⟨10,83886080,some 27⟩,⟨16,134217728,some 28⟩,⟨63,268435456,some 6⟩],
  [⟨0,0,some 9⟩,⟨0,0,some 10⟩,⟨1,528,none⟩,⟨7,1024,some 5⟩],
  [⟨0,0,some 15⟩,⟨0,0,some 16⟩,⟨1,32784,none⟩,⟨7,65536,some 5⟩],
  [⟨0,1,some 57⟩,⟨1,144115188075855872,some 58⟩,⟨2,288230376151711744,some 59⟩,⟨4,576460752303423488,some 60⟩,⟨0,8,some 61⟩,⟨16,2305843009213693952,some 62⟩,⟨32,4611686018427387904,some 63⟩,⟨64,9223372036854775808,some 64⟩,⟨255,19599665578316398592,some 65⟩,⟨511,36893488147419103232,some 66⟩,⟨767,73786976294838206464,none⟩],
  [⟨0,1,some 67⟩,⟨0,1,some 68⟩,⟨2,295147905179352825856,some 69⟩,⟨4,590295810358705651712,some 70⟩,⟨8,1180591620717411303424,some 71⟩,⟨0,8,some 72⟩,⟨32,4722366482869645213696,some 73⟩,⟨64,9444732965739290427392,some 74⟩,⟨128,18889465931478580854784,some 75⟩,⟨272,40140115104391984316416,some 76⟩,⟨1023,147573952589676412928,some 77⟩,⟨2047,151115727451828646838272,some 78⟩,⟨3071,377789318629571617095680,none⟩],
  [⟨0,1,some 80⟩,⟨0,8,some 81⟩,⟨2,2417851639229258349412352,some 82⟩,⟨5,6044629098073145873530880,some 83⟩,⟨0,8,some 84⟩,⟨24,29014219670751100192948224,some 85⟩,⟨63,38685626227668133590597648,none⟩,⟨127,0,some 5⟩],
  [⟨0,1,some 5⟩,⟨1,32,some 6⟩,⟨2,64,some 7⟩,⟨4,128,some 8⟩,⟨8,256,some 9⟩,⟨0,1,some 10⟩,⟨32,1024,some 11⟩,⟨64,2048,some 12⟩,⟨128,4096,some 13⟩,⟨256,8192,some 14⟩,⟨528,16896,some 15⟩,⟨2047,32768,some 2⟩],
  [⟨0,256,some 70⟩,⟨1,1180591620717411303424,some 71⟩,⟨2,2361183241434822606848,some 72⟩,⟨4,4722366482869645214208,some 73⟩,⟨4,4722366482869645213704,some 74⟩,⟨20,23611832414348226068480,some 75⟩,⟨44,51946031311566097350656,some 76⟩,⟨68,80280230208783968632832,some 77⟩,⟨132,151115727451828646838272,some 78⟩,⟨256,302231454903657293678592,some 79⟩,⟨256,302231454903657293676576,some 80⟩,⟨256,302231454903657293676672,some 81⟩,⟨2304,2720083094132915643088896,some 82⟩,⟨5376,6346860552976803167207424,some 83⟩,⟨8960,10578100921628005278679040,some 84⟩,⟨16640,19645044568737724088975360,some 85⟩,⟨36864,38685626227668133590597632,some 86⟩,⟨65536,77371252455336267181203456,some 87⟩,⟨65536,77371252455336267181195776,some 88⟩,⟨458752,541598767187353870268366848,some 89⟩,⟨589824,696341272098026404630757376,some 90⟩,⟨1114112,1237940039285380274899124224,some 91⟩,⟨2097152,2475880078570760549798248450,some 92⟩,⟨6291456,7427640235712281649394745344,some 93⟩,⟨10485760,12379400392853802748991242240,some 94⟩,⟨18874368,22282920707136844948184236032,some 95⟩,⟨41943040,39614081257132168796771975168,some 96⟩,⟨67108864,79228162514264337593543950338,some 97⟩,⟨201326592,237684487542793012780631851008,some 98⟩,⟨67108864,79228162514264337593543950464,some 99⟩,⟨603979776,713053462628379038341895553024,some 100⟩,⟨1409286144,1663791412799551089464422957056,some 101⟩,⟨2214592512,2614529362970723140586950361088,some 102⟩,⟨4563402752,5070602400912917605986812821504,some 103⟩,⟨8589934592,10141204801825835211973625708544,some 104⟩,⟨8589934592,10141204801825835211973625643008,some 105⟩,⟨60129542144,70988433612780846483815379501056,some 106⟩,⟨77309411328,91270843216432516907762630787072,some 107⟩,⟨274877906943,162259276829213363391578010288128,some 0⟩],
  [⟨0,1,some 33⟩,⟨1,8589934592,some 34⟩,⟨2,17179869184,some 35⟩,⟨4,34359738368,some 36⟩,⟨0,1,some 37⟩,⟨16,137438953472,some 38⟩,⟨40,343597383680,some 39⟩,⟨64,549755813888,some 40⟩],
  [⟨0,512,some 57⟩,⟨1,144115188075855872,some 58⟩,⟨2,288230376151711744,some 59⟩,⟨4,576460752303423489,some 60⟩,⟨12,1729382256910270464,some 61⟩,⟨20,2882303761517117440,some 62⟩,⟨36,5188146770730811392,some 63⟩,⟨4,576460752303423744,some 64⟩,⟨196,28246576862867750912,some 65⟩,⟨260,37469948899722526720,some 66⟩,⟨516,74363437047141629952,some 67⟩,⟨2047,147573952589676412928,some 4⟩],
  [⟨0,0,some 41⟩,⟨0,0,some 8⟩,⟨3,2199023255552,some 9⟩],
  [⟨0,1,some 14⟩,⟨1,16384,some 15⟩,⟨2,32768,some 16⟩,⟨4,65536,some 17⟩,⟨0,1,some 18⟩,⟨16,262144,some 19⟩,⟨32,524288,some 20⟩,⟨64,1048576,some 21⟩,⟨128,2097152,some 22⟩,⟨256,4194304,some 23⟩,⟨520,8519680,some 24⟩,⟨1024,16777216,some 25⟩,⟨4095,33554432,some 5⟩],
  [⟨0,1,some 26⟩,⟨0,1,some 27⟩,⟨2,134217728,some 28⟩,⟨4,268435456,some 29⟩,⟨8,536870912,some 30⟩,⟨0,1,some 31⟩,⟨32,2147483648,some 32⟩,⟨64,4294967296,some 33⟩,⟨128,8589934592,some 34⟩,⟨256,17179869184,some 35⟩,⟨512,34359738368,some 36⟩,⟨1040,69793218560,some 37⟩,⟨4095,67108864,some 38⟩,⟨8191,274877906944,some 39⟩,⟨12287,687194767360,none⟩],
  [⟨0,1,some 22⟩,⟨1,4194304,some 23⟩,⟨2,8388608,some 24⟩,⟨0,8,some 25⟩,⟨8,33554432,some 26⟩,⟨20,83886080,some 27⟩,⟨32,134217728,some 28⟩],
  [⟨0,1,some 8⟩,⟨1,256,some 9⟩,⟨2,512,some 10⟩,⟨4,1024,some 11⟩,⟨0,8,some 12⟩,⟨16,4096,some 13⟩,⟨40,10240,some 14⟩,⟨127,16384,some 4⟩],
  [⟨0,1,some 15⟩,⟨1,32768,some 16⟩,⟨2,65536,some 17⟩,⟨4,131072,some 18⟩,⟨0,8,some 19⟩,⟨16,524288,some 20⟩,⟨32,1048576,some 21⟩,⟨0,8,some 22⟩,⟨128,4194304,some 23⟩,⟨72,2359296,some 24⟩,⟨512,16777216,some 25⟩,⟨1280,41943040,some 26⟩,⟨4095,67108864,some 4⟩],
  [⟨0,8,some 8⟩,⟨1,256,some 9⟩,⟨2,512,some 10⟩,⟨4,1024,some 11⟩,⟨8,2056,some 12⟩,⟨24,6144,some 13⟩,⟨40,10240,some 14⟩,⟨72,18432,some 15⟩,⟨136,32768,some 16⟩,⟨256,65544,some 17⟩,⟨768,196608,some 18⟩,⟨256,65537,some 19⟩,⟨2304,589824,some 20⟩,⟨4352,1114112,some 21⟩,⟨8448,2162688,some 22⟩,⟨16640,4259840,some 23⟩,⟨34048,8716288,some 24⟩,⟨65792,16842752,some 25⟩,⟨262143,33554432,some 4⟩],
  [⟨0,1,some 55⟩,⟨0,1,some 56⟩,⟨2,72057594037927936,some 57⟩,⟨4,144115188075855872,some 58⟩,⟨8,288230376151711744,some 59⟩,⟨16,576460752303423488,some 60⟩,⟨32,1152921504606846977,some 61⟩,⟨96,3458764513820540928,some 62⟩,⟨160,5764607523034234880,some 63⟩,⟨288,10376293541461622784,some 64⟩,⟨544,19599665578316398592,some 65⟩,⟨1056,38046409652025950208,some 66⟩,⟨3104,74939897799445053440,some 67⟩,⟨4096,147573952589676412936,some 68⟩,⟨12288,442721857769029238784,some 69⟩,⟨20480,737869762948382064640,some 70⟩,⟨4096,147573952589676412929,some 71⟩,⟨69632,2508757194024499019776,some 72⟩,⟨135168,4869940435459321626624,some 73⟩,⟨266240,9592306918328966840320,some 74⟩,⟨528384,19037039884068257267712,some 75⟩,⟨1085440,39107097436264249425920,some 76⟩,⟨2101280,75706590600008606679040,some 77⟩,⟨4194336,151116880373333253685248,some 78⟩,⟨16777215,36028797018963968,some 79⟩,⟨33554431,604462909807314587353088,some 80⟩,⟨50331647,1511157274518286468382720,none⟩],
  [⟨0,1,some 96⟩,⟨1,79228162514264337593543950336,some 97⟩,⟨2,158456325028528675187087900672,some 98⟩,⟨4,316912650057057350374175801344,some 99⟩,⟨8,633825300114114700748351602688,some 100⟩,⟨0,1,some 101⟩,⟨32,2535301200456458802993406410752,some 102⟩,⟨64,5070602400912917605986812821504,some 103⟩,⟨128,10141204801825835211973625643008,some 104⟩,⟨272,20282409603651670423947251286016,some 105⟩,⟨512,40564819207303340847894502572032,some 106⟩,⟨1040,82397289014834911097285708349440,some 107⟩,⟨4095,162259276829213363391578010288132,none⟩],
  [⟨0,16,some 110⟩,⟨0,1,some 111⟩,⟨2,2596148429267413814265248164610048,some 112⟩,⟨4,5192296858534827628530496329220096,some 113⟩,⟨8,10384593717069655257060992658440192,some 114⟩,⟨0,1,some 115⟩,⟨32,41538374868278621028243970633760768,some 116⟩,⟨64,83076749736557242056487941267521536,some 117⟩,⟨128,166153499473114484112975882535043072,some 118⟩,⟨0,1,some 119⟩,⟨512,664613997892457936451903530140172288,some 120⟩,⟨1024,1329227995784915872903807060280344576,some 121⟩,⟨2048,2658455991569831745807614120560689152,some 122⟩,⟨4352,5649218982085892459841180006191464448,some 123⟩,⟨8209,10655891227928100000651711091641942016,some 124⟩,⟨32767,21267647932558653966460912964485513220,none⟩],
  [⟨0,1,some 59⟩,⟨1,576460752303423488,some 60⟩,⟨2,1152921504606846976,some 61⟩,⟨4,2305843009213693953,some 62⟩,⟨4,2305843009213693956,some 63⟩,⟨20,11529215046068469760,some 64⟩,⟨12,6917529027641081856,some 65⟩,⟨68,39199331156632797184,some 66⟩,⟨164,94539563377761452032,some 67⟩,⟨260,149879795598890106880,some 68⟩,⟨4,2305843009213693953,some 69⟩,⟨4,2305843009213693956,some 70⟩,⟨2052,1182897463726624997376,some 71⟩,⟨1028,592601653367919345664,some 72⟩,⟨8196,4724672325878858907648,some 73⟩,⟨20484,11808222050183326728192,some 74⟩,⟨32772,18891771774487794548736,some 75⟩,⟨66052,38076385611145728229376,some 76⟩,⟨131076,75560169568923537113088,some 77⟩],
  [⟨0,1,some 78⟩,⟨0,4,some 79⟩,⟨2,604462909807314587353088,some 80⟩,⟨0,1,some 81⟩,⟨0,4,some 82⟩,⟨16,4835703278458516698824704,some 83⟩,⟨8,2417851639229258349412352,some 84⟩,⟨64,19342813113834066795298816,some 85⟩,⟨160,48357032784585166988247040,some 86⟩,⟨256,77371252455336267181195264,some 87⟩,⟨517,156253662185190820830773248,some 88⟩],
  [⟨0,1,some 6⟩,⟨0,1,some 7⟩,⟨0,2,some 8⟩,⟨0,32,some 9⟩,⟨5,64,some 10⟩,⟨21,1024,some 11⟩,⟨37,2048,some 12⟩,⟨69,4352,none⟩,⟨255,128,some 13⟩,⟨511,8192,some 14⟩,⟨767,16384,some 15⟩,⟨1279,33280,none⟩],
  [⟨0,1,some 41⟩,⟨1,2199023255552,some 42⟩,⟨2,4398046511104,some 43⟩,⟨4,8796093022208,some 44⟩,⟨8,17592186044416,some 45⟩,⟨16,35184372088832,some 46⟩,⟨32,70368744177665,some 47⟩,⟨96,211106232532992,some 48⟩,⟨160,351843720888320,some 49⟩,⟨288,633318697598976,some 50⟩,⟨544,1196268651020288,some 51⟩,⟨1056,2322168557862912,some 52⟩,⟨2080,4573968371548160,some 53⟩,⟨4128,9077567998918656,some 54⟩,⟨10240,18014398509481984,some 55⟩,⟨16384,36028797018963969,some 56⟩,⟨16384,36028797018963984,some 57⟩,⟨49152,108086391056891904,some 58⟩,⟨147456,324259173170675712,some 59⟩,⟨344064,756604737398243328,some 60⟩,⟨540672,1188950301625810944,some 61⟩,⟨16384,36028797018963969,some 62⟩,⟨2113536,4647714815446351872,some 63⟩,⟨4210688,9259400833873739776,some 64⟩,⟨8404992,18482772870728515584,some 65⟩,⟨16793600,36929516944438067200,some 66⟩,⟨33570816,73823005091857170432,some 67⟩,⟨68173824,149915824395909070848,some 68⟩,⟨134234112,295183933976371789824,some 69⟩],
  [⟨0,1,some 30⟩,⟨0,1,some 31⟩,⟨2,2147483648,some 32⟩,⟨4,4294967296,some 33⟩,⟨8,8589934592,some 34⟩,⟨16,17179869184,some 35⟩,⟨32,34359738368,some 36⟩,⟨0,1,some 37⟩,⟨128,137438953472,some 38⟩,⟨256,274877906944,some 39⟩,⟨512,549755813888,some 40⟩,⟨1024,1099511627776,some 41⟩,⟨2048,2199023255552,some 42⟩,⟨4161,4467839729664,some 43⟩],
  [⟨0,1,some 28⟩,⟨0,1,some 29⟩,⟨2,536870912,some 30⟩,⟨4,1073741824,some 31⟩,⟨8,2147483648,some 32⟩,⟨16,4294967296,some 33⟩,⟨0,8,some 34⟩,⟨64,17179869184,some 35⟩,⟨128,34359738368,some 36⟩,⟨288,77309411328,some 37⟩,⟨1023,268435456,some 38⟩,⟨2047,274877906944,some 39⟩,⟨3071,549755813888,some 40⟩,⟨5119,1236950581248,none⟩],
  [⟨0,1,some 56⟩,⟨1,72057594037927936,some 57⟩,⟨2,144115188075855872,some 58⟩,⟨4,288230376151711744,some 59⟩,⟨8,576460752303423488,some 60⟩,⟨16,1152921504606846976,some 61⟩,⟨0,1,some 62⟩,⟨64,4611686018427387904,some 63⟩,⟨160,11529215046068469760,some 64⟩],
  [⟨0,1,some 78⟩,⟨1,302231454903657293676544,some 79⟩,⟨2,604462909807314587353088,some 80⟩,⟨4,1208925819614629174706176,some 81⟩,⟨0,1,some 82⟩,⟨16,4835703278458516698824704,some 83⟩,⟨32,9671406556917033397649408,some 84⟩,⟨64,19342813113834066795298816,some 85⟩,⟨128,38685626227668133590597632,some 86⟩,⟨256,77371252455336267181195264,some 87⟩,⟨512,154742504910672534362390528,some 88⟩,⟨1032,311902861460574327074193408,some 89⟩,⟨4095,618970019642690137449562112,some 4⟩],
  [⟨0,1,some 10⟩,⟨0,4,some 11⟩,⟨0,128,some 12⟩,⟨1,1024,some 13⟩,⟨8,8192,some 14⟩,⟨23,18432,some 15⟩,⟨39,36864,none⟩],
  [⟨0,1,some 6⟩,⟨0,1,some 7⟩,⟨2,128,some 8⟩,⟨4,256,some 9⟩,⟨8,512,some 10⟩,⟨0,1,some 11⟩,⟨32,2048,some 12⟩,⟨64,4096,some 13⟩,⟨128,8192,some 14⟩,⟨256,16384,some 15⟩,⟨512,32768,some 16⟩,⟨1024,65536,some 17⟩,⟨0,2,some 18⟩,⟨0,4,some 19⟩,⟨14336,917504,some 20⟩,⟨16384,1048576,some 21⟩,⟨34832,2098176,some 22⟩,⟨131071,64,some 23⟩,⟨262143,8388608,some 24⟩,⟨393215,20971520,none⟩],
  [⟨0,1,some 4⟩,⟨0,2,some 5⟩,⟨0,0,some 6⟩,⟨0,1,some 7⟩,⟨8,128,some 8⟩,⟨16,256,some 9⟩,⟨32,512,some 10⟩,⟨64,1024,some 11⟩,⟨0,1,some 12⟩,⟨256,4096,some 13⟩,⟨512,8192,some 14⟩,⟨1024,16384,some 15⟩,⟨2048,32768,some 16⟩,⟨4100,65536,some 17⟩,⟨8324,133184,some 18⟩,⟨24579,262192,some 19⟩],
  [⟨0,1,some 2⟩,⟨1,4,some 3⟩,⟨2,8,some 4⟩,⟨4,16,some 5⟩,⟨8,32,some 6⟩,⟨0,1,some 7⟩,⟨32,128,some 8⟩,⟨64,256,some 9⟩,⟨128,512,some 10⟩,⟨272,1088,some 11⟩],
  [⟨0,1,some 12⟩,⟨0,1,some 13⟩,⟨2,8192,some 14⟩,⟨4,16384,some 15⟩,⟨8,32768,some 16⟩,⟨0,1,some 17⟩,⟨32,131072,some 18⟩,⟨64,262144,some 19⟩,⟨128,524288,some 20⟩,⟨256,1048576,some 21⟩,⟨528,2162688,some 22⟩,⟨1024,4194304,some 11⟩,⟨2048,2048,some 23⟩,⟨2048,2048,some 24⟩,⟨8191,4096,some 25⟩,⟨24575,33554432,some 26⟩,⟨40959,67108864,some 27⟩,⟨73727,142606336,none⟩],
  [⟨0,1,some 62⟩,⟨0,1,some 63⟩,⟨2,9223372036854775808,some 64⟩,⟨4,18446744073709551616,some 65⟩,⟨8,36893488147419103232,some 66⟩,⟨0,1,some 67⟩,⟨32,147573952589676412928,some 68⟩,⟨80,368934881474191032320,some 69⟩,⟨128,590295810358705651712,some 61⟩,⟨256,2305843009213693952,some 70⟩,⟨256,2305843009213693952,some 71⟩,⟨1023,4611686018427387904,some 72⟩,⟨3071,4722366482869645213696,some 73⟩,⟨5119,9444732965739290427392,some 74⟩,⟨9215,20070057552195992158208,none⟩],
  [⟨0,1,some 78⟩,⟨0,1,some 79⟩,⟨2,604462909807314587353088,some 80⟩,⟨4,1208925819614629174706176,some 81⟩,⟨8,2417851639229258349412352,some 82⟩,⟨0,1,some 83⟩,⟨32,9671406556917033397649408,some 84⟩,⟨64,19342813113834066795298816,some 85⟩,⟨128,38685626227668133590597632,some 86⟩,⟨256,77371252455336267181195264,some 87⟩,⟨512,154742504910672534362390528,some 88⟩,⟨1040,314320713099803585423605760,some 89⟩,⟨2048,618970019642690137449562112,some 77⟩,⟨4096,151115727451828646838272,some 90⟩,⟨4096,151115727451828646838272,some 91⟩,⟨16383,302231454903657293676544,some 92⟩,⟨49151,4951760157141521099596496896,some 93⟩,⟨81919,9903520314283042199192993792,some 94⟩,⟨147455,21044980667851464673285111808,none⟩],
  [⟨0,8,some 11⟩,⟨0,1,some 12⟩,⟨0,32,some 13⟩,⟨6,12288,some 14⟩,⟨8,16384,some 15⟩,⟨17,34816,some 16⟩],
  [⟨0,1,some 20⟩,⟨0,2,some 21⟩,⟨3,3145728,some 22⟩,⟨0,1,some 23⟩,⟨0,4,some 24⟩,⟨24,25165824,some 25⟩,⟨36,37748736,some 26⟩,⟨127,67108864,some 0⟩]]
theorem cK:kL tab sched infos=true:=by kernel_rfl
end Go.Proofs.YthomdlajobnmnaaDoor
set_option linter.unusedSimpArgs false
set_option linter.unusedVariables false
namespace Go.Rex
structure jL (w0:World) (W:Nat→Prop) (w:World):Prop where
 os:w.os=w0.os
 tape:w.tape=w0.tape
 output:w.output=w0.output
 size:w0.heap.size≤w.heap.size
 block:∀k,k<w0.heap.size→¬W k→w.heap[k]?=w0.heap[k]?
theorem jL.refl (w:World) (W:Nat→Prop):jL w W w:=⟨rfl,rfl,rfl,Nat.le_refl _,fun _ _ _=>rfl⟩
theorem jL.step {w0 w w':World} {W:Nat→Prop} (h:jL w0 W w) (h1:w'.os=w.os) (h2:w'.tape=w.tape) (h3:w'.output=w.output) (h4:w.heap.size≤w'.heap.size)
  (h5:∀k,k<w0.heap.size→¬W k→w'.heap[k]?=w.heap[k]?):jL w0 W w' :=
 ⟨h1.trans h.os,h2.trans h.tape,h3.trans h.output,Nat.le_trans h.size h4,fun k hk hn=>(h5 k hk hn).trans (h.block k hk hn)⟩
def kX (z:Nat) (W:Nat→Prop) (ρ:Env) (ν:Nat→Addr) (hp:List SB):Prop :=
 ∀(k:Nat) (sb:SB),hp[k]?=some sb→sb.own=true→sb.dead ρ=false→z≤(ν k).block∨W (ν k).block
def jX (ρ:Env) (ν:Nat→Addr) (hp:List SB) (b:Nat):Prop:=∃(k:Nat) (sb:SB),hp[k]?=some sb∧sb.own=true∧sb.dead ρ=false∧b=(ν k).block
structure bF (P:Program) (k:dZ) (pre post:Env→Prop):Prop where
 fn:∃fn,P.funcs[k.f]?=some fn∧fn.body.isSome=true∧(fn.name == "runtime.NumGoroutine")=false
 run:∀ρ ν w,aN ρ ν k.hp w→jo ν k.gl→pre ρ.num→Calls P k.f (k.args.map (·.den ρ ν)).toArray w fun e w' =>
  ∃ρ' aO,dL k.nv k.hp.length ρ ρ' ν aO∧e=.returned (k.ret.den ρ' aO)∧aN ρ' aO k.hp' w'∧jL w (jX ρ ν k.hp) w'∧kX w.heap.size (jX ρ ν k.hp) ρ' aO k.hp'∧post ρ'.num
def zl:List SB→List SB→Bool
 | [],_=>true
 | T :: r,[]=>!T.own && zl r []
 | T :: r,U :: s=>(!T.own || U.gone || (!T.ro && !U.ro && T.nl.same U.nl)) && zl r s
def DN:List SB→Bool
 | []=>true
 | T :: r=>(T.gone || (T.own && !T.ro)) && DN r
def jF (k:dZ):Bool:=Nat.ble k.nv k.jy && Nat.ble k.hp.length k.hp'.length && nH k.nv k.hp.length k.hp && zl k.hp k.hp' && DN (k.hp'.drop k.hp.length)
structure xz where
 w:World
 W:Nat→Prop
 ρ:Env
 ν:Nat→Addr
 nv:Nat
 n:Nat
structure qX (T:bq) (ρ:Env) (ν:Nat→Addr) (F:bz) (a:Act) (S:World→Prop):Prop where
 fr:nX ρ ν F.fr a
 tmps:T.ntmps F.f≤a.tmps.size
 defers:a.defers=[]
 held:∀p k sc d,F.cur=.dr p k sc d→∀w,S w↔aN ρ ν sc w
abbrev AS:=Act × (World→Prop)
def zm (T:bq) (ρ:Env) (ν:Nat→Addr):List (bz × Nat)→List AS→Prop
 | [],[]=>True
 | x :: r,y :: s=>qX T ρ ν x.1 y.1 y.2∧zm T ρ ν r s
 | _,_=>False
structure Rel (T:bq) (B:xz) (ρ:Env) (ν:Nat→Addr) (c:cB) (a:AS) (aS0:List AS) (w:World):Prop where
 nv:B.nv≤c.nv
 n:B.n≤c.hp.length
 iH:dL B.nv B.n B.ρ ρ B.ν ν
 kn:Kn.ok ρ c.kn
 gl:jo ν c.gl
 hp:aN ρ ν c.hp w
 wr:jL B.w B.W w
 own:kX B.w.heap.size B.W ρ ν c.hp
 top:qX T ρ ν c.top a.1 a.2
 dM:zm T ρ ν c.dM aS0
 held:∀p k sc,c.top.cur=.dr p k sc false→gI sc c.hp=true
theorem kX.ext {z:Nat} {W:Nat→Prop} {nv n:Nat} {ρ ρ':Env} {ν aO:Nat→Addr} {hp:List SB} (h:kX z W ρ ν hp) (hA:dL nv n ρ ρ' ν aO) (hs:nH nv n hp=true) (hl:hp.length≤n):kX z W ρ' aO hp:=by
 intro k sb hk ho hd
 rw [hA.bl k (Nat.lt_of_lt_of_le (List.getElem?_eq_some_iff.1 hk).1 hl)]
 exact h k sb hk ho (by rwa [SB.lh hA (iN hs k sb hk)] at hd)
theorem qX.ext {T:bq} {nv n:Nat} {ρ ρ':Env} {ν aO:Nat→Addr} (hA:dL nv n ρ ρ' ν aO) {F:bz} {a:Act} {S:World→Prop} (hs:F.sc nv n=true) (h:qX T ρ ν F a S) :
  qX T ρ' aO F a S:=by
 simp only [bz.sc,Bool.and_eq_true] at hs
 refine ⟨nX.ext hA hs.1 h.fr,h.tmps,h.defers,fun p k sc d hc w=>?_⟩
 have h2:=hs.2
 rw [hc] at h2
 simp only [Bool.and_eq_true,Nat.ble_eq] at h2
 rw [h.held p k sc d hc w]
 exact aN.ext_iff hA h2.1 h2.2
theorem zm.ext {T:bq} {nv n:Nat} {ρ ρ':Env} {ν aO:Nat→Addr} (hA:dL nv n ρ ρ' ν aO):∀{st:List (bz × Nat)} {aS0:List AS},xw nv n st=true→zm T ρ ν st aS0→zm T ρ' aO st aS0
 | [],[],_,_=>trivial
 | [],_ :: _,_,h=>h
 | _ :: _,[],_,h=>h
 | x :: r,y :: s,hs,h=>by
  simp only [xw,Bool.and_eq_true] at hs
  exact ⟨qX.ext hA hs.1 h.1,zm.ext hA hs.2 h.2⟩
theorem jo.ext {nv n:Nat} {ρ ρ':Env} {ν aO:Nat→Addr} (hA:dL nv n ρ ρ' ν aO) {gl:List (Nat × Nat)} (hs:BN n gl=true) (h:jo ν gl):jo aO gl:=by
 have lt:∀g k,assoc g gl=some k→k<n:=by
  intro g k hk
  have hm:=ku hk
  clear h hk
  induction gl with
  | nil=>cases hm
  | cons x r ih =>
   simp only [BN,Bool.and_eq_true,Nat.blt_eq] at hs
   rcases List.mem_cons.1 hm with rfl | hm
   ·exact hs.1
   ·exact ih hs.2 hm
 refine ⟨fun g k hg hk=>?_,fun g g' k k' h1 h2 h3 h4 hne=>?_⟩
 ·rw [hA.bl k (lt g k hk)]
  exact h.at_ g k hg hk
 ·rw [hA.bl k (lt g k h3),hA.bl k' (lt g' k' h4)]
  exact h.ne g g' k k' h1 h2 h3 h4 hne
theorem Rel.ext {T:bq} {B:xz} {ρ ρ':Env} {ν aO:Nat→Addr} {c:cB} {a:AS} {aS0:List AS} {w:World} (h:Rel T B ρ ν c a aS0 w) (hs:c.sc=true)
  (hA:dL c.nv c.hp.length ρ ρ' ν aO):Rel T B ρ' aO c a aS0 w:=by
 simp only [cB.sc,Bool.and_eq_true] at hs
 obtain ⟨⟨⟨⟨h1,h2⟩,h3⟩,h4⟩,h5⟩:=hs
 exact ⟨h.nv,h.n,h.iH.trans hA h.nv h.n,Dk hA h1 h.kn,h.gl.ext hA h5,aN.ext hA h2 (Nat.le_refl _) h.hp,h.wr,h.own.ext hA h2 (Nat.le_refl _),h.top.ext hA h3,h.dM.ext hA h4,h.held⟩
def zn (P:Program) (ops:Array Oper) (Q:Exit→Act→World→Prop) (S:World→Prop):fC→Array Bool→Act→World→Prop
 | .go i k,listed,a,w=>wpOp P ops Q i (fun a' w'=>(asked k.lH (listed.setIfInBounds i true)→S w')∧jw P .any ops Q S k.lH k.size (listed.setIfInBounds i true) a' w') a w
 | s,listed,a,w=>jw P .any ops Q S s.lH s.size listed a w
theorem mD {P:Program} {ops:Array Oper} {Q:Exit→Act→World→Prop} {S:World→Prop} {s:fC} (h:s.mq=false) {listed:Array Bool} {a:Act} {w:World} :
  zn P ops Q S s listed a w↔jw P .any ops Q S s.lH s.size listed a w:=by
 cases s <;> first | exact Iff.rfl | (cases h)
def eH (P:Program) (T:bq) (R:Ending→World→Prop) (F:bz) (a:AS) (w:World):Prop :=
 let k:=F.todo.map (SI.jE (T.body F.f))
 match F.cur with
 | .none=>Reach P F.f R a.1 k w
 | .reg p i=>wpOps P (T.ops F.f p) (ky P F.f R k) (List.range' i ((T.ops F.f p).size-i)) a.1 w
 | .dr p s _ _=>(s.y8=false→a.2 w)∧∀listed:Array Bool,Region.noSelect (T.ops F.f p)=true→qh (T.ops F.f p) listed s→zn P (T.ops F.f p) (ky P F.f R k) a.2 s listed a.1 w
def RK (P:Program) (T:bq) (R:Ending→World→Prop):List (bz × Nat)→List AS→Ending→World→Prop
 | [],_,e,w=>R e w
 | (G,i) :: st,a :: aS0,e,w=>∃v,e=.returned v∧eH P T (RK P T R st aS0) (G.eO i) (a.1.put (((T.ops G.f G.zf)[i]?).bind (·.dst)) v,a.2) w
 | _ :: _,[],_,_=>False
def Goal (P:Program) (T:bq) (R:Ending→World→Prop) (c:cB) (a:AS) (aS0:List AS) (w:World):Prop :=
 eH P T (RK P T R c.dM aS0) c.top a w
def aJ (σ:Sub) (m d:Nat) (ρ ρ':Env):Env where
 iv:=fun i=>if i<m then (σ.af ρ).iv i else ρ'.iv (i-m+d)
 bv:=fun i=>if i<m then (σ.af ρ).bv i else ρ'.bv (i-m+d)
 ic:=fun i=>if i<m then (σ.af ρ).ic i else ρ'.ic (i-m+d)
 bc:=fun i=>if i<m then (σ.af ρ).bc i else ρ'.bc (i-m+d)
def Sat (post:Env→Prop) (cs:List (dZ × (Env→Prop) × (Env→Prop))):List (Env→Prop)→Env→Out→Prop
 | _,ρ,.fin σ=>post (σ.af ρ)
 | _,_,.stop _=>False
 | Γ,ρ,.br c t e=>(c.den ρ=true→Sat post cs Γ ρ t)∧(c.den ρ=false→Sat post cs Γ ρ e)
 | Γ,ρ,.ob b k=>b.den ρ=true∧(b.den ρ=true→Sat post cs Γ ρ k)
 | Γ,ρ,.alt a b=>Sat post cs Γ ρ a∧Sat post cs Γ ρ b
 | Γ,ρ,.new nv fs k=>∀e:Env,(∀f∈fs,f.den (ρ.join nv e))→Sat post cs Γ (ρ.join nv e) k
 | Γ,ρ,.loop nv σ k=>∃(Inv:Env→Prop) (m:Env→Nat),Inv (σ.af ρ)∧∀e:Env,Inv (ρ.join nv e).num→Sat post cs ((fun ρ'=>Inv ρ'∧m ρ'<m (ρ.join nv e).num) :: Γ) (ρ.join nv e) k
 | Γ,ρ,.back i σ=>∃G,Γ[i]?=some G∧G (σ.af ρ)
 | Γ,ρ,.call g σ nv k=>∃c pre post',cs[g]?=some (c,pre,post')∧pre (σ.af ρ)∧∀e:Env,post' (aJ σ c.nv nv ρ (ρ.join nv e))→Sat post cs Γ (ρ.join nv e) k
 | _,_,.bad _=>False
end Go.Rex
