/- part 10 of the proof -/
import Derived.Test.YthomdlajobnmnaaGreatDoorChecked
import Derived.KernelRfl
import Derived.Test.YthomdlajobnmnaaGreatDoorX4
import Derived.Test.YthomdlajobnmnaaGreatDoorX8
namespace Go.Proofs.YthomdlajobnmnaaGreatDoor
open Go.Rex
abbrev z6:SC:=.int .i64 (.lit 0)
abbrev z0:SC:=.bool (.lit false)
def mG:List (Nat × TI):=[(1,{d:=TD.fn,size:=1,bytes:=8,zero:=[SC.bE]}),
  (2,{d:=TD.int IntKind.i64,size:=1,bytes:=8,zero:=[z6]}),
  (3,{d:=TD.int IntKind.i64,size:=1,bytes:=8,zero:=[z6]}),
  (4,{d:=TD.bool,size:=1,bytes:=1,zero:=[z0]}),
  (5,{d:=TD.int IntKind.u8,size:=1,bytes:=1,zero:=[SC.int IntKind.u8 (IE.lit (0))]}),
  (6,{d:=TD.int IntKind.u8,size:=1,bytes:=1,zero:=[SC.int IntKind.u8 (IE.lit (0))]}),
  (7,{d:=TD.struct [(0,2),(1,3),(2,4),(3,6)],size:=4,bytes:=24,zero:=[z6,z6,z0,SC.int IntKind.u8 (IE.lit (0))],eqs:=true}),
  (8,{d:=TD.struct [(0,2),(1,3),(2,4),(3,6)],size:=4,bytes:=24,zero:=[z6,z6,z0,SC.int IntKind.u8 (IE.lit (0))],eqs:=true}),
  (9,{d:=TD.str,size:=1,bytes:=16,zero:=[SC.str []]}),
  (10,{d:=TD.str,size:=1,bytes:=16,zero:=[SC.str []]}),
  (11,{d:=TD.str,size:=1,bytes:=16,zero:=[SC.str []]}),
  (12,{d:=TD.int IntKind.u64,size:=1,bytes:=8,zero:=[SC.int IntKind.u64 (IE.lit (0))]}),
  (13,{d:=TD.struct [(0,9),(1,12)],size:=2,bytes:=24,zero:=[SC.str [],SC.int IntKind.u64 (IE.lit (0))]}),
  (14,{d:=TD.struct [(0,9),(1,12)],size:=2,bytes:=24,zero:=[SC.str [],SC.int IntKind.u64 (IE.lit (0))]}),
  (15,{d:=TD.ptr 227,size:=1,bytes:=8,zero:=[SC.bI]}),
  (16,{d:=TD.ptr 230,size:=1,bytes:=8,zero:=[SC.bI]}),
  (17,{d:=TD.ptr 239,size:=1,bytes:=8,zero:=[SC.bI]}),
  (18,{d:=TD.struct [(0,17)],size:=1,bytes:=8,zero:=[SC.bI]}),
  (19,{d:=TD.struct [(0,17)],size:=1,bytes:=8,zero:=[SC.bI]}),
  (20,{d:=TD.wJ,size:=1,bytes:=16,zero:=[SC.dI]}),
  (21,{d:=TD.int IntKind.i32,size:=1,bytes:=4,zero:=[SC.int IntKind.i32 (IE.lit (0))]}),
  (22,{d:=TD.arr 2 3,size:=2,bytes:=16,zero:=[z6,z6],eqs:=true}),
  (23,{d:=TD.sl 3,size:=1,bytes:=24,zero:=[SC.bG]}),
  (24,{d:=TD.fn,size:=1,bytes:=8,zero:=[SC.bE]}),
  (25,{d:=TD.sl 28,size:=1,bytes:=24,zero:=[SC.bG]}),
  (26,{d:=TD.int IntKind.u64,size:=1,bytes:=8,zero:=[SC.int IntKind.u64 (IE.lit (0))]}),
  (27,{d:=TD.struct [(0,3),(1,3),(2,3),(3,3)],size:=4,bytes:=32,zero:=[z6,z6,z6,z6],eqs:=true}),
  (28,{d:=TD.struct [(0,3),(1,3),(2,3),(3,3)],size:=4,bytes:=32,zero:=[z6,z6,z6,z6],eqs:=true}),
  (29,{d:=TD.ptr 97,size:=1,bytes:=8,zero:=[SC.bI]}),
  (30,{d:=TD.sl 45,size:=1,bytes:=24,zero:=[SC.bG]}),
  (32,{d:=TD.fn,size:=1,bytes:=8,zero:=[SC.bE]}),
  (33,{d:=TD.sl 25,size:=1,bytes:=24,zero:=[SC.bG]}),
  (34,{d:=TD.fn,size:=1,bytes:=8,zero:=[SC.bE]}),
  (35,{d:=TD.wJ,size:=1,bytes:=16,zero:=[SC.dI]}),
  (36,{d:=TD.wJ,size:=1,bytes:=16,zero:=[SC.dI]}),
  (38,{d:=TD.struct [(0,3),(1,3)],size:=2,bytes:=16,zero:=[z6,z6],eqs:=true}),
  (39,{d:=TD.struct [(0,3),(1,3)],size:=2,bytes:=16,zero:=[z6,z6],eqs:=true}),
  (40,{d:=TD.ptr 151,size:=1,bytes:=8,zero:=[SC.bI]}),
  (41,{d:=TD.ptr 130,size:=1,bytes:=8,zero:=[SC.bI]}),
  (42,{d:=TD.sl 39,size:=1,bytes:=24,zero:=[SC.bG]}),
  (43,{d:=TD.struct [(0,40),(1,25),(2,41),(3,4),(4,42)],size:=5,bytes:=72,zero:=[SC.bI,SC.bG,SC.bI,z0,SC.bG],eqs:=true}),
  (44,{d:=TD.struct [(0,40),(1,25),(2,41),(3,4),(4,42)],size:=5,bytes:=72,zero:=[SC.bI,SC.bG,SC.bI,z0,SC.bG],eqs:=true}),
  (45,{d:=TD.ptr 44,size:=1,bytes:=8,zero:=[SC.bI]}),
  (46,{d:=TD.fn,size:=1,bytes:=8,zero:=[SC.bE]}),
  (47,{d:=TD.fn,size:=1,bytes:=8,zero:=[SC.bE]}),
  (48,{d:=TD.fn,size:=1,bytes:=8,zero:=[SC.bE]}),
  (49,{d:=TD.sl 79,size:=1,bytes:=24,zero:=[SC.bG]}),
  (54,{d:=TD.fn,size:=1,bytes:=8,zero:=[SC.bE]}),
  (55,{d:=TD.fn,size:=1,bytes:=8,zero:=[SC.bE]}),
  (58,{d:=TD.fn,size:=1,bytes:=8,zero:=[SC.bE]}),
  (59,{d:=TD.fn,size:=1,bytes:=8,zero:=[SC.bE]}),
  (60,{d:=TD.ptr 167,size:=1,bytes:=8,zero:=[SC.bI]}),
  (61,{d:=TD.struct [(0,40),(1,25),(2,60),(3,4),(4,42)],size:=5,bytes:=72,zero:=[SC.bI,SC.bG,SC.bI,z0,SC.bG],eqs:=true}),
  (64,{d:=TD.fn,size:=1,bytes:=8,zero:=[SC.bE]}),
  (65,{d:=TD.fn,size:=1,bytes:=8,zero:=[SC.bE]}),
  (66,{d:=TD.arr 3 3,size:=3,bytes:=24,zero:=[z6,z6,z6],eqs:=true}),
  (67,{d:=TD.sl 70,size:=1,bytes:=24,zero:=[SC.bG]}),
  (70,{d:=TD.ptr 123,size:=1,bytes:=8,zero:=[SC.bI]}),
  (71,{d:=TD.sl 126,size:=1,bytes:=24,zero:=[SC.bG]}),
  (74,{d:=TD.fn,size:=1,bytes:=8,zero:=[SC.bE]}),
  (75,{d:=TD.fn,size:=1,bytes:=8,zero:=[SC.bE]}),
  (77,{d:=TD.fn,size:=1,bytes:=8,zero:=[SC.bE]}),
  (79,{d:=TD.struct [(0,3),(1,3),(2,3),(3,3),(4,4)],size:=5,bytes:=40,zero:=[z6,z6,z6,z6,z0],eqs:=true}),
  (81,{d:=TD.struct [(0,3),(1,3),(2,3)],size:=3,bytes:=24,zero:=[z6,z6,z6],eqs:=true}),
  (82,{d:=TD.struct [(0,3),(1,81),(4,79),(9,79),(14,3),(15,3),(16,39)],size:=18,bytes:=144,zero:=[z6,z6,z6,z6,z6,z6,z6,z6,z0,z6,z6,z6,z6,z0,z6,z6,z6,z6],eqs:=true}),
  (83,{d:=TD.struct [(0,3),(1,81),(4,79),(9,79),(14,3),(15,3),(16,39)],size:=18,bytes:=144,zero:=[z6,z6,z6,z6,z6,z6,z6,z6,z0,z6,z6,z6,z6,z0,z6,z6,z6,z6],eqs:=true}),
  (86,{d:=TD.struct [(0,79),(5,4)],size:=6,bytes:=48,zero:=[z6,z6,z6,z6,z0,z0],eqs:=true}),
  (90,{d:=TD.fn,size:=1,bytes:=8,zero:=[SC.bE]}),
  (92,{d:=TD.struct [(0,3),(1,81),(4,79),(9,79)],size:=14,bytes:=112,zero:=[z6,z6,z6,z6,z6,z6,z6,z6,z0,z6,z6,z6,z6,z0],eqs:=true}),
  (95,{d:=TD.sl 140,size:=1,bytes:=24,zero:=[SC.bG]}),
  (96,{d:=TD.struct [(0,49),(1,95),(2,23),(3,3),(4,3),(5,36)],size:=6,bytes:=104,zero:=[SC.bG,SC.bG,SC.bG,z6,z6,SC.dI]}),
  (97,{d:=TD.struct [(0,49),(1,95),(2,23),(3,3),(4,3),(5,36)],size:=6,bytes:=104,zero:=[SC.bG,SC.bG,SC.bG,z6,z6,SC.dI]}),
  (98,{d:=TD.fn,size:=1,bytes:=8,zero:=[SC.bE]}),
  (99,{d:=TD.fn,size:=1,bytes:=8,zero:=[SC.bE]}),
  (106,{d:=TD.fn,size:=1,bytes:=8,zero:=[SC.bE]}),
  (110,{d:=TD.fn,size:=1,bytes:=8,zero:=[SC.bE]}),
  (112,{d:=TD.ptr 174,size:=1,bytes:=8,zero:=[SC.bI]}),
  (118,{d:=TD.ptr 185,size:=1,bytes:=8,zero:=[SC.bI]}),
  (120,{d:=TD.fn,size:=1,bytes:=8,zero:=[SC.bE]}),
  (123,{d:=TD.struct [(0,40),(1,25),(2,118),(3,4),(4,42)],size:=5,bytes:=72,zero:=[SC.bI,SC.bG,SC.bI,z0,SC.bG],eqs:=true}),
  (124,{d:=TD.sl 4,size:=1,bytes:=24,zero:=[SC.bG]}),
  (126,{d:=TD.struct [(0,3),(1,3)],size:=2,bytes:=16,zero:=[z6,z6],eqs:=true}),
  (128,{d:=TD.struct [(0,3),(1,83)],size:=19,bytes:=152,zero:=[z6,z6,z6,z6,z6,z6,z6,z6,z6,z0,z6,z6,z6,z6,z0,z6,z6,z6,z6],eqs:=true}),
  (130,{d:=TD.struct [(0,128),(19,28),(23,79),(28,79),(33,3)],size:=34,bytes:=272,zero:=[z6,z6,z6,z6,z6,z6,z6,z6,z6,z0,z6,z6,z6,z6,z0,z6,z6,z6,z6,z6,z6,z6,z6,z6,z6,z6,z6,z0,z6,z6,z6,z6,z0,z6],eqs:=true}),
  (131,{d:=TD.wJ,size:=1,bytes:=16,zero:=[SC.dI]}),
  (132,{d:=TD.wJ,size:=1,bytes:=16,zero:=[SC.dI]}),
  (133,{d:=TD.fn,size:=1,bytes:=8,zero:=[SC.bE]}),
  (135,{d:=TD.fn,size:=1,bytes:=8,zero:=[SC.bE]}),
  (136,{d:=TD.fn,size:=1,bytes:=8,zero:=[SC.bE]}),
  (138,{d:=TD.arr 10 79,size:=50,bytes:=400,zero:=[z6,z6,z6,z6,z0,z6,z6,z6,z6,z0,z6,z6,z6,z6,z0,z6,z6,z6,z6,z0,z6,z6,z6,z6,z0,z6,z6,z6,z6,z0,z6,z6,z6,z6,z0,z6,z6,z6,z6,z0,z6,z6,z6,z6,z0,z6,z6,z6,z6,z0],eqs:=true}),
  (140,{d:=TD.struct [(0,3),(1,4),(2,138)],size:=52,bytes:=416,zero:=[z6,z0,z6,z6,z6,z6,z0,z6,z6,z6,z6,z0,z6,z6,z6,z6,z0,z6,z6,z6,z6,z0,z6,z6,z6,z6,z0,z6,z6,z6,z6,z0,z6,z6,z6,z6,z0,z6,z6,z6,z6,z0,z6,z6,z6,z6,z0,z6,z6,z6,z6,z0],eqs:=true}),
  (142,{d:=TD.ptr 79,size:=1,bytes:=8,zero:=[SC.bI]}),
  (144,{d:=TD.sl 207,size:=1,bytes:=24,zero:=[SC.bG]}),
  (146,{d:=TD.struct [(0,83),(18,3),(19,92),(33,79),(38,79),(43,3),(44,49),(45,144)],size:=46,bytes:=400,zero:=[z6,z6,z6,z6,z6,z6,z6,z6,z0,z6,z6,z6,z6,z0,z6,z6,z6,z6,z6,z6,z6,z6,z6,z6,z6,z6,z6,z0,z6,z6,z6,z6,z0,z6,z6,z6,z6,z0,z6,z6,z6,z6,z0,z6,SC.bG,SC.bG],eqs:=true}),
  (147,{d:=TD.arr 9 79,size:=45,bytes:=360,zero:=[z6,z6,z6,z6,z0,z6,z6,z6,z6,z0,z6,z6,z6,z6,z0,z6,z6,z6,z6,z0,z6,z6,z6,z6,z0,z6,z6,z6,z6,z0,z6,z6,z6,z6,z0,z6,z6,z6,z6,z0,z6,z6,z6,z6,z0],eqs:=true}),
  (149,{d:=TD.struct [(0,4),(1,3),(2,3)],size:=3,bytes:=24,zero:=[z0,z6,z6],eqs:=true}),
  (151,{
      d:=TD.struct [(0,146),(46,3),(47,3),(48,3),(49,3),(50,147),(95,149),(98,144),(99,3),(100,86)],size:=106,bytes:=896,zero:=[z6,z6,z6,z6,z6,z6,z6,z6,z0,z6,z6,z6,z6,z0,z6,z6,z6,z6,z6,z6,z6,z6,z6,z6,z6,z6,z6,z0,z6,z6,z6,z6,z0,z6,z6,z6,z6,z0,z6,z6,z6,z6,z0,z6,SC.bG,SC.bG,z6,z6,z6,z6,z6,z6,z6,z6,z0,z6,z6,z6,z6,z0,z6,z6,z6,z6,z0,z6,z6,z6,z6,z0,z6,z6,z6,z6,z0,z6,z6,z6,z6,z0,z6,z6,z6,z6,z0,z6,z6,z6,z6,z0,z6,z6,z6,z6,z0,z0,z6,z6,SC.bG,z6,z6,z6,z6,z6,z0,z0],eqs:=true}),
  (152,{d:=TD.fn,size:=1,bytes:=8,zero:=[SC.bE]}),
  (154,{d:=TD.fn,size:=1,bytes:=8,zero:=[SC.bE]}),
  (157,{d:=TD.fn,size:=1,bytes:=8,zero:=[SC.bE]}),
  (160,{d:=TD.fn,size:=1,bytes:=8,zero:=[SC.bE]}),
  (161,{d:=TD.ptr 163,size:=1,bytes:=8,zero:=[SC.bI]}),
  (163,{d:=TD.struct [(0,3),(1,36)],size:=2,bytes:=24,zero:=[z6,SC.dI]}),
  (165,{d:=TD.struct [(0,3),(1,83)],size:=19,bytes:=152,zero:=[z6,z6,z6,z6,z6,z6,z6,z6,z6,z0,z6,z6,z6,z6,z0,z6,z6,z6,z6],eqs:=true}),
  (167,{d:=TD.struct [(0,165),(19,28),(23,79),(28,79),(33,79),(38,79),(43,3)],size:=44,bytes:=352,zero:=[z6,z6,z6,z6,z6,z6,z6,z6,z6,z0,z6,z6,z6,z6,z0,z6,z6,z6,z6,z6,z6,z6,z6,z6,z6,z6,z6,z0,z6,z6,z6,z6,z0,z6,z6,z6,z6,z0,z6,z6,z6,z6,z0,z6],eqs:=true}),
  (168,{d:=TD.struct [(0,3),(1,83)],size:=19,bytes:=152,zero:=[z6,z6,z6,z6,z6,z6,z6,z6,z6,z0,z6,z6,z6,z6,z0,z6,z6,z6,z6],eqs:=true}),
  (169,{d:=TD.struct [(0,3),(1,83)],size:=19,bytes:=152,zero:=[z6,z6,z6,z6,z6,z6,z6,z6,z6,z0,z6,z6,z6,z6,z0,z6,z6,z6,z6],eqs:=true}),
  (171,{d:=TD.struct [(0,81),(3,79)],size:=8,bytes:=64,zero:=[z6,z6,z6,z6,z6,z6,z6,z0],eqs:=true}),
  (172,{d:=TD.arr 3 171,size:=24,bytes:=192,zero:=[z6,z6,z6,z6,z6,z6,z6,z0,z6,z6,z6,z6,z6,z6,z6,z0,z6,z6,z6,z6,z6,z6,z6,z0],eqs:=true}),
  (173,{d:=TD.struct [(0,169),(19,171),(27,3),(28,3),(29,79),(34,3),(35,172),(59,79)],size:=64,bytes:=512,zero:=[z6,z6,z6,z6,z6,z6,z6,z6,z6,z0,z6,z6,z6,z6,z0,z6,z6,z6,z6,z6,z6,z6,z6,z6,z6,z6,z0,z6,z6,z6,z6,z6,z6,z0,z6,z6,z6,z6,z6,z6,z6,z6,z0,z6,z6,z6,z6,z6,z6,z6,z0,z6,z6,z6,z6,z6,z6,z6,z0,z6,z6,z6,z6,z0],eqs:=true}),
  (174,{d:=TD.struct [(0,169),(19,171),(27,3),(28,3),(29,79),(34,3),(35,172),(59,79)],size:=64,bytes:=512,zero:=[z6,z6,z6,z6,z6,z6,z6,z6,z6,z0,z6,z6,z6,z6,z0,z6,z6,z6,z6,z6,z6,z6,z6,z6,z6,z6,z0,z6,z6,z6,z6,z6,z6,z0,z6,z6,z6,z6,z6,z6,z6,z6,z0,z6,z6,z6,z6,z6,z6,z6,z0,z6,z6,z6,z6,z6,z6,z6,z0,z6,z6,z6,z6,z0],eqs:=true}),
  (178,{d:=TD.fn,size:=1,bytes:=8,zero:=[SC.bE]}),
  (180,{d:=TD.fn,size:=1,bytes:=8,zero:=[SC.bE]}),
  (182,{d:=TD.fn,size:=1,bytes:=8,zero:=[SC.bE]}),
  (184,{d:=TD.struct [(0,169),(19,28),(23,112),(24,79),(29,3),(30,3),(31,3)],size:=32,bytes:=256,zero:=[z6,z6,z6,z6,z6,z6,z6,z6,z6,z0,z6,z6,z6,z6,z0,z6,z6,z6,z6,z6,z6,z6,z6,SC.bI,z6,z6,z6,z6,z0,z6,z6,z6],eqs:=true}),
  (185,{d:=TD.struct [(0,169),(19,28),(23,112),(24,79),(29,3),(30,3),(31,3)],size:=32,bytes:=256,zero:=[z6,z6,z6,z6,z6,z6,z6,z6,z6,z0,z6,z6,z6,z6,z0,z6,z6,z6,z6,z6,z6,z6,z6,SC.bI,z6,z6,z6,z6,z0,z6,z6,z6],eqs:=true}),
  (186,{d:=TD.fn,size:=1,bytes:=8,zero:=[SC.bE]}),
  (197,{d:=TD.fn,size:=1,bytes:=8,zero:=[SC.bE]}),
  (198,{d:=TD.ptr 140,size:=1,bytes:=8,zero:=[SC.bI]}),
  (200,{d:=TD.fn,size:=1,bytes:=8,zero:=[SC.bE]}),
  (201,{d:=TD.fn,size:=1,bytes:=8,zero:=[SC.bE]}),
  (203,{d:=TD.sl 149,size:=1,bytes:=24,zero:=[SC.bG]}),
  (204,{d:=TD.fn,size:=1,bytes:=8,zero:=[SC.bE]}),
  (207,{d:=TD.struct [(0,79),(5,3),(6,3)],size:=7,bytes:=56,zero:=[z6,z6,z6,z6,z0,z6,z6],eqs:=true}),
  (209,{d:=TD.fn,size:=1,bytes:=8,zero:=[SC.bE]}),
  (212,{d:=TD.fn,size:=1,bytes:=8,zero:=[SC.bE]}),
  (217,{d:=TD.fn,size:=1,bytes:=8,zero:=[SC.bE]}),
  (220,{d:=TD.fn,size:=1,bytes:=8,zero:=[SC.bE]}),
  (221,{d:=TD.ptr 165,size:=1,bytes:=8,zero:=[SC.bI]}),
  (222,{d:=TD.fn,size:=1,bytes:=8,zero:=[SC.bE]}),
  (223,{d:=TD.fn,size:=1,bytes:=8,zero:=[SC.bE]}),
  (227,{d:=TD.struct [(0,17),(1,17),(2,17),(3,9)],size:=4,bytes:=40,zero:=[SC.bI,SC.bI,SC.bI,SC.str []]}),
  (228,{d:=TD.arr 0 16,size:=0,bytes:=0,zero:=[],eqs:=true}),
  (230,{d:=TD.struct [(0,228)],size:=0,bytes:=0,zero:=[]}),
  (231,{d:=TD.int IntKind.u32,size:=1,bytes:=4,zero:=[SC.int IntKind.u32 (IE.lit (0))]}),
  (232,{d:=TD.int IntKind.u8,size:=1,bytes:=1,zero:=[SC.int IntKind.u8 (IE.lit (0))]}),
  (233,{d:=TD.int IntKind.u8,size:=1,bytes:=1,zero:=[SC.int IntKind.u8 (IE.lit (0))]}),
  (234,{d:=TD.fn,size:=1,bytes:=8,zero:=[SC.bE]}),
  (235,{d:=TD.ptr 5,size:=1,bytes:=8,zero:=[SC.bI]}),
  (236,{d:=TD.int IntKind.i32,size:=1,bytes:=4,zero:=[SC.int IntKind.i32 (IE.lit (0))]}),
  (237,{d:=TD.int IntKind.i32,size:=1,bytes:=4,zero:=[SC.int IntKind.i32 (IE.lit (0))]}),
  (239,{
      d:=TD.struct
          [(0,12),(1,12),(2,231),(3,232),(4,5),(5,5),(6,233),(7,234),(8,235),(9,236),(10,237)],size:=11,bytes:=48,zero:=[SC.int IntKind.u64 (IE.lit (0)),SC.int IntKind.u64 (IE.lit (0)),SC.int IntKind.u32 (IE.lit (0)),SC.int IntKind.u8 (IE.lit (0)),SC.int IntKind.u8 (IE.lit (0)),SC.int IntKind.u8 (IE.lit (0)),SC.int IntKind.u8 (IE.lit (0)),SC.bE,SC.bI,SC.int IntKind.i32 (IE.lit (0)),SC.int IntKind.i32 (IE.lit (0))]}),
  (241,{d:=TD.fn,size:=1,bytes:=8,zero:=[SC.bE]}),
  (257,{d:=TD.int IntKind.i32,size:=1,bytes:=4,zero:=[SC.int IntKind.i32 (IE.lit (0))]}),
  (259,{d:=TD.struct [(0,236),(1,237),(2,257),(3,257)],size:=4,bytes:=16,zero:=[SC.int IntKind.i32 (IE.lit (0)),SC.int IntKind.i32 (IE.lit (0)),SC.int IntKind.i32 (IE.lit (0)),SC.int IntKind.i32 (IE.lit (0))]})]
noncomputable def tab:aY:={mG:=mG,fns:=[(3,Tryz.f3),(4,Tryz.f4),(5,Tryz.f5),(6,Tryz.f6),(7,Tryz.f7),(8,Tryz.f8),(9,Tryz.f9),(10,Tryz.f10),(11,Tryz.f11),(12,Tryz.f12),(13,Tryz.f13),(14,Tryz.f14),(15,Tryz.f15),(16,Tryz.f16),(17,Tryz.f17),(18,Tryz.f18),(19,Tryz.f19),(20,Tryz.f20),(21,Tryz.f21),(22,Tryz.f22),(23,Tryz.f23),(24,Tryz.f24),(25,Tryz.f25),(26,Tryz.f26),(27,Tryz.f27),(28,Tryz.f28),(29,Tryz.f29),(30,Tryz.f30),(31,Tryz.f31),(32,Tryz.f32),(33,Tryz.f33),(34,Tryz.f34),(35,Tryz.f35),(36,Tryz.f36),(37,Tryz.f37),(38,Tryz.f38),(39,Tryz.f39),(40,Tryz.f40),(41,Tryz.f41),(42,Tryz.f42),(43,Tryz.f43),(44,Tryz.f44),(45,Tryz.f45),(46,Tryz.f46),(47,Tryz.f47),(48,Tryz.f48),(49,Tryz.f49),(50,Tryz.f50),(51,Tryz.f51),(52,Tryz.f52),(53,Tryz.f53),(54,Tryz.f54),(55,Tryz.f55),(56,Tryz.f56),(57,Tryz.f57),(58,Tryz.f58),(59,Tryz.f59),(61,Tryz.f61),(62,Tryz.f62),(63,Tryz.f63),(64,Tryz.f64),(65,Tryz.f65),(66,Tryz.f66),(67,Tryz.f67),(68,Tryz.f68),(69,Tryz.f69),(70,Tryz.f70),(71,Tryz.f71),(72,Tryz.f72),(73,Tryz.f73),(74,Tryz.f74),(75,Tryz.f75),(76,Tryz.f76),(77,Tryz.f77),(78,Tryz.f78),(79,Tryz.f79),(80,Tryz.f80),(81,Tryz.f81),(82,Tryz.f82),(83,Tryz.f83),(84,Tryz.f84),(85,Tryz.f85),(86,Tryz.f86),(87,Tryz.f87),(88,Tryz.f88),(89,Tryz.f89),(90,Tryz.f90),(91,Tryz.f91),(92,Tryz.f92),(93,Tryz.f93),(94,Tryz.f94),(95,Tryz.f95),(96,Tryz.f96),(97,Tryz.f97),(98,Tryz.f98),(99,Tryz.f99),(100,Tryz.f100),(101,Tryz.f101),(102,Tryz.f102),(103,Tryz.f103),(104,Tryz.f104),(105,Tryz.f105),(106,Tryz.f106),(107,Tryz.f107),(108,Tryz.f108),(109,Tryz.f109),(110,Tryz.f110),(111,Tryz.f111),(112,Tryz.f112),(113,Tryz.f113),(114,Tryz.f114),(115,Tryz.f115),(116,Tryz.f116),(117,Tryz.f117),(118,Tryz.f118),(119,Tryz.f119),(120,Tryz.f120),(121,Tryz.f121),(122,Tryz.f122),(123,Tryz.f123),(124,Tryz.f124),(125,Tryz.f125),(126,Tryz.f126),(127,Tryz.f127),(128,Tryz.f128),(129,Tryz.f129),(130,Tryz.f130),(131,Tryz.f131),(132,Tryz.f132),(133,Tryz.f133),(134,Tryz.f134),(135,Tryz.f135),(136,Tryz.f136),(137,Tryz.f137),(138,Tryz.f138),(139,Tryz.f139),(140,Tryz.f140),(141,Tryz.f141),(142,Tryz.f142),(143,Tryz.f143),(144,Tryz.f144),(145,Tryz.f145),(146,Tryz.f146),(147,Tryz.f147),(148,Tryz.f148),(149,Tryz.f149),(150,Tryz.f150),(151,Tryz.f151),(152,Tryz.f152)],wraps:=[]}
set_option maxRecDepth 100000 in
theorem dO:dD Tryz.prog tab where
  mG:=by kernel_rfl
  fns:=UE (P:=Tryz.prog) (l:=tab.fns) ⟨rfl,rfl,rfl,rfl,rfl,rfl,rfl,rfl,rfl,rfl,rfl,rfl,rfl,rfl,rfl,rfl,rfl,rfl,rfl,rfl,rfl,rfl,rfl,rfl,rfl,rfl,rfl,rfl,rfl,rfl,rfl,rfl,rfl,rfl,rfl,rfl,rfl,rfl,rfl,rfl,rfl,rfl,rfl,rfl,rfl,rfl,rfl,rfl,rfl,rfl,rfl,rfl,rfl,rfl,rfl,rfl,rfl,rfl,rfl,rfl,rfl,rfl,rfl,rfl,rfl,rfl,rfl,rfl,rfl,rfl,rfl,rfl,rfl,rfl,rfl,rfl,rfl,rfl,rfl,rfl,rfl,rfl,rfl,rfl,rfl,rfl,rfl,rfl,rfl,rfl,rfl,rfl,rfl,rfl,rfl,rfl,rfl,rfl,rfl,rfl,rfl,rfl,rfl,rfl,rfl,rfl,rfl,rfl,rfl,rfl,rfl,rfl,rfl,rfl,rfl,rfl,rfl,rfl,rfl,rfl,rfl,rfl,rfl,rfl,rfl,rfl,rfl,rfl,rfl,rfl,rfl,rfl,rfl,rfl,rfl,rfl,rfl,rfl,rfl,rfl,rfl,rfl,rfl,rfl,rfl,rfl,rfl,rfl,rfl,trivial⟩
  mixed:=by kernel_rfl
def sched:List ((FuncId × List Nat) × eY) :=
  [((16,[1,0,1,0,0]),.take 1 0<|.solo 0<|.solo 2<|.nil none),
  ((16,[1,1,0]),.take 0 0<|.take 2 0<|.alt 1 (.solo 3<|.solo 4<|.solo 5<|.solo 6<|.nil none) 3 (.solo 1<|.solo 4<|.solo 5<|.solo 6<|.nil none)),
  ((18,[1,1,1,1,1,0,1,0,0,1,1,0,0,1,0]),.take 0 0<|.take 1 0<|.take 3 0<|.take 4 14304<|.alt 2 (.alt 5 (.take 6 0<|.alt 7 (.take 8 0<|.take 9 0<|.take 10 0<|.solo 11<|.solo 12<|.solo 13<|.nil none) 11 (.solo 7<|.solo 8<|.take 9 0<|.take 10 0<|.solo 12<|.solo 13<|.nil none)) 11 (.solo 5<|.solo 6<|.solo 7<|.solo 8<|.take 9 0<|.take 10 0<|.solo 12<|.solo 13<|.nil none)) 11 (.solo 2<|.solo 5<|.solo 6<|.solo 7<|.solo 8<|.take 9 0<|.take 10 0<|.solo 12<|.solo 13<|.nil none)),
  ((19,[1,0,1,0,0]),.take 1 0<|.take 2 0<|.solo 0<|.solo 3<|.nil none),
  ((20,[1,1,0]),.take 0 0<|.take 1 0<|.take 2 0<|.take 5 0<|.take 6 0<|.take 7 0<|.take 3 3088<|.take 4 0<|.solo 8<|.solo 9<|.solo 10<|.solo 11<|.nil none),
  ((32,[1,0,1,0,0]),.take 0 0<|.take 1 8<|.solo 2<|.solo 3<|.nil none),
  ((32,[1,1,0,1,0,0]),.take 0 0<|.take 1 8<|.solo 2<|.solo 3<|.nil none),
  ((32,[1,1,1,1,1,0,1,0,1,1,1,0,0]),.take 0 0<|.take 1 0<|.take 2 0<|.take 4 0<|.take 5 0<|.take 3 1792<|.solo 6<|.solo 7<|.solo 8<|.solo 9<|.solo 10<|.drop<|.nil (some 10)),
  ((32,[1,1,1,1,1,0,1,0,1,1,1,0,1,0]),.take 0 0<|.take 1 0<|.take 2 0<|.take 3 0<|.take 5 0<|.take 6 0<|.take 4 7680<|.solo 7<|.solo 8<|.solo 9<|.drop<|.solo 10<|.solo 11<|.solo 12<|.nil (some 9)),
  ((32,[1,1,1,1,1,1,0]),.take 0 0<|.take 1 0<|.take 2 232<|.take 4 224<|.solo 3<|.solo 5<|.drop<|.solo 6<|.solo 7<|.nil (some 5)),
  ((34,[1,0,1,0,0]),.take 1 0<|.solo 0<|.solo 2<|.nil none),
  ((65,[1,1,0]),.take 0 0<|.take 1 0<|.take 2 0<|.take 4 0<|.take 5 0<|.take 6 0<|.take 3 7168<|.solo 7<|.solo 8<|.solo 9<|.solo 10<|.solo 11<|.solo 12<|.nil none),
  ((65,[1,1,1,0]),.take 0 0<|.take 1 0<|.take 2 0<|.take 3 0<|.take 5 0<|.take 6 0<|.take 7 0<|.take 4 30720<|.solo 8<|.solo 9<|.solo 10<|.solo 11<|.solo 12<|.solo 13<|.solo 14<|.drop<|.nil (some 14)),
  ((66,[1,1,0,1,0,0,0,1,1,0]),.take 0 0<|.take 1 0<|.take 3 0<|.take 2 96<|.solo 4<|.solo 5<|.drop<|.solo 6<|.nil (some 5)),
  ((67,[1,0,1,0,0]),.take 0 0<|.take 1 0<|.take 2 0<|.take 4 0<|.take 3 192<|.solo 5<|.solo 6<|.solo 7<|.nil none),
  ((67,[1,1,0]),.take 0 0<|.take 1 0<|.take 2 0<|.take 4 0<|.take 7 0<|.take 3 7680<|.take 5 7744<|.take 6 0<|.take 9 0<|.take 10 0<|.solo 8<|.solo 11<|.solo 12<|.nil none),
  ((68,[1,1,0,1,1,1,1,1,1,1,1,1,1,1,1,1,0,0]),.solo 0<|.solo 1<|.solo 2<|.take 3 0<|.take 4 0<|.take 6 0<|.take 7 0<|.take 10 0<|.take 11 0<|.take 13 0<|.take 14 0<|.take 5 393984<|.take 8 0<|.take 9 393216<|.solo 12<|.solo 15<|.solo 16<|.solo 17<|.solo 18<|.nil none),
  ((68,[1,1,0,1,1,1,1,1,1,1,1,1,1,1,1,1,0,1,0]),.take 0 0<|.take 1 0<|.take 3 0<|.take 4 0<|.take 6 0<|.take 7 0<|.take 2 1024<|.solo 5<|.solo 8<|.solo 9<|.solo 10<|.drop<|.nil (some 10)),
  ((73,[1]),.take 0 0<|.take 1 0<|.take 2 0<|.take 4 0<|.take 5 0<|.take 6 0<|.take 3 3840<|.solo 7<|.solo 8<|.solo 9<|.solo 10<|.solo 11<|.drop<|.nil (some 11)),
  ((75,[1,1,1,0,1,1,1,0,1,1,0,0]),.solo 0<|.solo 1<|.solo 2<|.solo 3<|.solo 4<|.solo 5<|.solo 6<|.solo 7<|.solo 8<|.solo 9<|.solo 10<|.solo 11<|.solo 12<|.solo 13<|.solo 14<|.take 15 0<|.take 16 0<|.take 17 0<|.take 18 0<|.take 19 0<|.take 21 0<|.take 22 0<|.take 23 0<|.take 24 0<|.take 20 402653184<|.solo 25<|.solo 26<|.solo 27<|.solo 28<|.nil none),
  ((76,[1,1,0,0,0,1,1,0]),.take 0 0<|.take 1 0<|.take 2 0<|.take 3 0<|.take 4 0<|.take 5 0<|.take 7 0<|.take 8 0<|.take 9 0<|.take 10 0<|.take 11 0<|.take 6 8192<|.solo 12<|.solo 13<|.drop<|.nil (some 13)),
  ((77,[1,1,0,0,0,0,0,0,0,1,0]),.take 0 0<|.take 1 0<|.take 2 0<|.take 3 0<|.take 4 0<|.take 6 0<|.take 5 15872<|.solo 7<|.solo 8<|.solo 9<|.drop<|.solo 10<|.solo 11<|.solo 12<|.solo 13<|.nil (some 9)),
  ((77,[1,1,0,0,0,0,0,0,0,1,1,1,1,0]),.take 0 0<|.take 1 0<|.take 2 0<|.take 3 0<|.take 4 0<|.take 6 0<|.take 5 256<|.solo 7<|.solo 8<|.drop<|.nil (some 8)),
  ((77,[1,1,0,1,0,0]),.take 0 0<|.take 1 0<|.take 2 0<|.take 4 0<|.take 5 0<|.take 6 0<|.take 7 0<|.take 3 6144<|.solo 8<|.solo 9<|.solo 10<|.solo 11<|.drop<|.solo 12<|.nil (some 11)),
  ((78,[1,0,1,0,0]),.solo 0<|.solo 1<|.solo 2<|.solo 3<|.solo 4<|.solo 5<|.solo 6<|.solo 7<|.solo 8<|.take 9 0<|.take 11 0<|.take 12 0<|.take 13 0<|.take 10 458752<|.solo 14<|.solo 15<|.solo 16<|.solo 17<|.solo 18<|.nil none),
  ((81,[1,0,1,0,0,0,0,0,0,0,0,0,0,0,0,0,1,0,1,1,0]),.take 0 0<|.take 1 0<|.take 2 0<|.take 3 0<|.take 4 0<|.take 5 0<|.take 8 0<|.take 9 0<|.take 10 0<|.take 11 0<|.take 6 123008<|.take 12 122880<|.solo 7<|.solo 13<|.drop<|.solo 14<|.solo 15<|.solo 16<|.nil (some 13)),
  ((81,[1,0,1,0,0,0,0,0,0,0,0,0,0,0,1,0,1,0]),.take 0 0<|.take 1 0<|.take 2 0<|.solo 3<|.solo 4<|.solo 5<|.solo 6<|.solo 7<|.solo 8<|.solo 9<|.solo 10<|.nil none),
  ((81,[1,0,1,0,0,0,0,0,0,0,0,0,1,0,1,0]),.take 0 0<|.take 1 0<|.take 2 0<|.solo 3<|.solo 4<|.solo 5<|.solo 6<|.nil none),
  ((81,[1,0,1,0,0,0,0,0,0,0,1,0,0,0]),.take 0 0<|.take 2 0<|.take 3 0<|.take 4 0<|.take 1 192<|.solo 5<|.solo 6<|.drop<|.solo 7<|.nil (some 6)),
  ((81,[1,0,1,0,0,0,0,0,0,0,1,0,0,1,0,0]),.take 0 0<|.take 1 0<|.take 2 0<|.solo 3<|.solo 4<|.solo 5<|.solo 6<|.nil none),
  ((81,[1,0,1,0,0,0,0,0,0,0,1,0,1,0,1,0,0]),.take 0 0<|.take 1 0<|.take 2 0<|.take 4 0<|.take 5 0<|.take 6 0<|.take 8 0<|.take 9 0<|.take 10 0<|.take 12 0<|.take 13 0<|.take 14 0<|.take 7 917504<|.take 11 983040<|.take 15 983040<|.solo 3<|.solo 16<|.solo 17<|.drop<|.solo 18<|.solo 19<|.nil (some 17)),
  ((81,[1,0,1,0,0,0,0,0,0,0,1,0,1,1,0]),.take 0 0<|.take 1 0<|.take 2 0<|.take 3 0<|.take 4 0<|.take 5 0<|.take 8 0<|.take 9 0<|.take 10 0<|.take 12 0<|.take 13 0<|.take 14 0<|.take 16 0<|.take 17 0<|.take 18 0<|.take 6 15728768<|.take 11 14680064<|.take 15 15728640<|.take 19 15728640<|.solo 7<|.solo 20<|.solo 21<|.drop<|.solo 22<|.solo 23<|.nil (some 21)),
  ((81,[1,0,1,0,0,0,0,0,1,1,0,0]),.take 0 0<|.take 1 0<|.take 2 0<|.take 4 0<|.take 5 0<|.take 6 0<|.take 8 0<|.take 9 0<|.take 10 0<|.take 12 0<|.take 13 0<|.take 14 0<|.take 7 917504<|.take 11 983040<|.take 15 983040<|.solo 3<|.solo 16<|.solo 17<|.drop<|.solo 18<|.solo 19<|.nil (some 17)),
  ((81,[1,0,1,0,0,0,1,0,0]),.take 0 0<|.take 1 0<|.take 2 0<|.solo 3<|.solo 4<|.solo 5<|.solo 6<|.nil none),
  ((82,[1,0,1,0,0,0,0,0,0,0,0,0,0,0,0,0,0,0,1,0,1,0]),.take 0 0<|.take 1 0<|.take 2 0<|.solo 3<|.solo 4<|.solo 5<|.solo 6<|.nil none),
  ((82,[1,0,1,0,0,0,0,0,0,0,0,0,0,0,0,0,1,0,1,0]),.take 0 0<|.take 1 0<|.take 2 0<|.solo 3<|.solo 4<|.solo 5<|.solo 6<|.solo 7<|.solo 8<|.solo 9<|.solo 10<|.nil none),
  ((82,[1,0,1,0,0,0,0,0,0,0,0,0,0,0,1,0,1,0]),.take 0 0<|.take 1 0<|.take 2 0<|.solo 3<|.solo 4<|.solo 5<|.solo 6<|.nil none),
  ((82,[1,0,1,0,0,0,0,0,0,0,0,0,1,0,0,0]),.take 0 0<|.take 2 0<|.take 3 0<|.take 4 0<|.take 1 192<|.solo 5<|.solo 6<|.drop<|.solo 7<|.nil (some 6)),
  ((82,[1,0,1,0,0,0,0,0,0,0,0,0,1,0,0,1,0,0]),.take 0 0<|.take 1 0<|.take 2 0<|.solo 3<|.solo 4<|.solo 5<|.solo 6<|.nil none),
  ((82,[1,0,1,0,0,0,0,0,0,0,0,0,1,0,1,1,0,0]),.take 0 0<|.take 1 0<|.take 2 0<|.take 3 0<|.take 5 0<|.take 6 0<|.take 7 0<|.take 8 0<|.take 4 1024<|.solo 9<|.solo 10<|.nil none),
  ((82,[1,0,1,0,0,0,0,0,0,0,0,0,1,0,1,1,0,1,0,0]),.take 0 0<|.take 1 0<|.take 2 0<|.take 4 0<|.take 5 0<|.take 6 0<|.take 8 0<|.take 9 0<|.take 10 0<|.take 12 0<|.take 13 0<|.take 14 0<|.take 7 917504<|.take 11 983040<|.take 15 983040<|.solo 3<|.solo 16<|.solo 17<|.drop<|.solo 18<|.solo 19<|.nil (some 17)),
  ((82,[1,0,1,0,0,0,0,0,0,0,0,0,1,0,1,1,1,0]),.take 0 0<|.take 1 0<|.take 2 0<|.solo 3<|.solo 4<|.solo 5<|.solo 6<|.solo 7<|.solo 8<|.solo 9<|.solo 10<|.nil none),
  ((82,[1,0,1,0,0,0,0,0,0,0,1,0,1,0]),.take 0 0<|.take 1 0<|.take 2 0<|.take 4 0<|.take 5 0<|.take 6 0<|.take 8 0<|.take 9 0<|.take 10 0<|.take 12 0<|.take 13 0<|.take 14 0<|.take 7 917504<|.take 11 983040<|.take 15 983040<|.solo 3<|.solo 16<|.solo 17<|.drop<|.solo 18<|.solo 19<|.nil (some 17)),
  ((82,[1,0,1,0,0,0,0,0,1,1,0,0]),.take 0 0<|.take 1 0<|.take 2 0<|.solo 3<|.solo 4<|.solo 5<|.solo 6<|.solo 7<|.solo 8<|.solo 9<|.nil none),
  ((82,[1,0,1,0,0,0,1,0,0]),.take 0 0<|.take 1 0<|.take 2 0<|.solo 3<|.solo 4<|.solo 5<|.solo 6<|.nil none),
  ((82,[1,0,1,0,1,0,0]),.take 0 0<|.take 1 0<|.take 2 0<|.solo 3<|.solo 4<|.solo 5<|.solo 6<|.solo 7<|.solo 8<|.nil none),
  ((109,[1,0]),.take 0 0<|.take 1 0<|.take 3 0<|.take 4 0<|.solo 2<|.solo 5<|.solo 6<|.nil none),
  ((115,[]),.take 0 0<|.take 1 0<|.take 2 0<|.take 3 0<|.take 5 0<|.take 6 0<|.take 7 0<|.take 8 0<|.take 9 0<|.take 12 0<|.take 13 0<|.take 4 983040<|.solo 10<|.solo 11<|.solo 14<|.solo 15<|.solo 16<|.drop<|.solo 17<|.solo 18<|.solo 19<|.nil (some 16)),
  ((116,[]),.take 0 0<|.take 1 0<|.take 3 0<|.take 4 0<|.take 5 0<|.take 6 0<|.take 8 0<|.take 9 0<|.take 10 0<|.take 11 0<|.take 7 49152<|.take 12 57344<|.solo 2<|.solo 13<|.solo 14<|.solo 15<|.drop<|.nil (some 15)),
  ((117,[0]),.take 0 0<|.take 1 0<|.take 2 0<|.take 5 0<|.take 6 0<|.take 7 0<|.take 3 528<|.take 4 0<|.solo 8<|.solo 9<|.nil none),
  ((119,[0,1,0,1,0]),.take 0 0<|.take 1 0<|.take 2 0<|.take 3 0<|.take 5 0<|.take 6 0<|.take 7 0<|.take 8 0<|.take 4 261120<|.solo 9<|.solo 10<|.drop<|.solo 11<|.take 12 0<|.take 13 0<|.solo 14<|.solo 15<|.solo 16<|.solo 17<|.nil (some 10)),
  ((119,[0,1,0,1,1,1,1,1,0]),.take 0 0<|.take 1 0<|.take 2 0<|.take 3 0<|.take 5 0<|.take 4 32640<|.solo 6<|.solo 7<|.drop<|.solo 8<|.take 9 0<|.take 10 0<|.solo 11<|.solo 12<|.solo 13<|.solo 14<|.nil (some 7)),
  ((119,[0,1,0,1,1,1,1,1,1,1,0]),.take 0 0<|.take 1 0<|.take 2 0<|.take 3 0<|.take 5 0<|.take 6 0<|.take 7 0<|.take 8 0<|.take 9 0<|.take 4 522240<|.solo 10<|.solo 11<|.drop<|.solo 12<|.take 13 0<|.take 14 0<|.solo 15<|.solo 16<|.solo 17<|.solo 18<|.nil (some 11)),
  ((122,[1,0,1,0,0,1,1,0,0,1,0]),.take 1 0<|.take 2 0<|.take 3 0<|.take 0 32<|.solo 4<|.solo 5<|.nil none),
  ((123,[1,1,1,1,0]),.take 0 0<|.take 1 0<|.take 2 0<|.take 3 0<|.solo 4<|.solo 5<|.solo 6<|.solo 7<|.nil none)]
def infos:List (List OI) :=
  [[⟨0,0,some 22⟩,⟨0,0,some 4⟩,⟨3,4194304,some 5⟩],
  [⟨0,2,some 23⟩,⟨1,8388608,some 24⟩,⟨0,1,some 25⟩,⟨4,33554432,some 26⟩,⟨10,83886080,some 27⟩,⟨16,134217728,some 28⟩,⟨63,268435456,some 6⟩],
  [⟨0,1,some 31⟩,⟨0,64,some 32⟩,⟨2,4294967296,some 33⟩,⟨0,8,some 34⟩,⟨8,17179869184,some 35⟩,⟨20,34359738368,some 36⟩,⟨36,77309411328,some 37⟩,⟨97,139586437120,some 38⟩,⟨128,274877906944,some 30⟩,⟨256,1073741824,some 39⟩,⟨256,1073741824,some 40⟩,⟨0,0,some 7⟩,⟨3071,549755814016,none⟩,⟨8191,1099511627776,some 8⟩],
  [⟨0,0,some 13⟩,⟨0,0,some 2⟩,⟨2,0,some 3⟩,⟨7,8192,some 4⟩],
  [⟨0,1,some 5⟩,⟨1,32,some 6⟩,⟨2,64,some 7⟩,⟨4,128,some 8⟩,⟨8,256,some 9⟩,⟨0,1,some 10⟩,⟨32,1024,some 11⟩,⟨64,2048,some 12⟩,⟨128,4096,some 13⟩,⟨256,8192,some 14⟩,⟨528,16896,some 15⟩,⟨2047,32768,some 2⟩],
  [⟨0,0,some 9⟩,⟨0,0,some 10⟩,⟨1,528,none⟩,⟨7,1024,some 5⟩],
  [⟨0,0,some 15⟩,⟨0,0,some 16⟩,⟨1,32784,none⟩,⟨7,65536,some 5⟩],
  [⟨0,1,some 57⟩,⟨1,144115188075855872,some 58⟩,⟨2,288230376151711744,some 59⟩,⟨4,576460752303423488,some 60⟩,⟨0,8,some 61⟩,⟨16,2305843009213693952,some 62⟩,⟨32,4611686018427387904,some 63⟩,⟨64,9223372036854775808,some 64⟩,⟨255,19599665578316398592,some 65⟩,⟨511,36893488147419103232,some 66⟩,⟨767,73786976294838206464,none⟩],
  [⟨0,1,some 67⟩,⟨0,1,some 68⟩,⟨2,295147905179352825856,some 69⟩,⟨4,590295810358705651712,some 70⟩,⟨8,1180591620717411303424,some 71⟩,⟨0,8,some 72⟩,⟨32,4722366482869645213696,some 73⟩,⟨64,9444732965739290427392,some 74⟩,⟨128,18889465931478580854784,some 75⟩,⟨272,40140115104391984316416,some 76⟩,⟨1023,147573952589676412928,some 77⟩,⟨2047,151115727451828646838272,some 78⟩,⟨3071,377789318629571617095680,none⟩],
  [⟨0,1,some 80⟩,⟨0,8,some 81⟩,⟨2,2417851639229258349412352,some 82⟩,⟨5,6044629098073145873530880,some 83⟩,⟨0,8,some 84⟩,⟨24,29014219670751100192948224,some 85⟩,⟨63,38685626227668133590597648,none⟩,⟨127,0,some 5⟩],
  [⟨0,0,some 41⟩,⟨0,0,some 8⟩,⟨3,2199023255552,some 9⟩],
  [⟨0,1,some 14⟩,⟨1,16384,some 15⟩,⟨2,32768,some 16⟩,⟨4,65536,some 17⟩,⟨0,1,some 18⟩,⟨16,262144,some 19⟩,⟨32,524288,some 20⟩,⟨64,1048576,some 21⟩,⟨128,2097152,some 22⟩,⟨256,4194304,some 23⟩,⟨520,8519680,some 24⟩,⟨1024,16777216,some 25⟩,⟨4095,33554432,some 5⟩],
  [⟨0,1,some 26⟩,⟨0,1,some 27⟩,⟨2,134217728,some 28⟩,⟨4,268435456,some 29⟩,⟨8,536870912,some 30⟩,⟨0,1,some 31⟩,⟨32,2147483648,some 32⟩,⟨64,4294967296,some 33⟩,⟨128,8589934592,some 34⟩,⟨256,17179869184,some 35⟩,⟨512,34359738368,some 36⟩,⟨1040,69793218560,some 37⟩,⟨4095,67108864,some 38⟩,⟨8191,274877906944,some 39⟩,⟨12287,687194767360,none⟩],
  [⟨0,1,some 22⟩,⟨1,4194304,some 23⟩,⟨2,8388608,some 24⟩,⟨0,8,some 25⟩,⟨8,33554432,some 26⟩,⟨20,83886080,some 27⟩,⟨32,134217728,some 28⟩],
  [⟨0,1,some 8⟩,⟨1,256,some 9⟩,⟨2,512,some 10⟩,⟨4,1024,some 11⟩,⟨0,8,some 12⟩,⟨16,4096,some 13⟩,⟨40,10240,some 14⟩,⟨127,16384,some 4⟩],
  [⟨0,1,some 15⟩,⟨1,32768,some 16⟩,⟨2,65536,some 17⟩,⟨4,131072,some 18⟩,⟨0,8,some 19⟩,⟨16,524288,some 20⟩,⟨32,1048576,some 21⟩,⟨0,8,some 22⟩,⟨128,4194304,some 23⟩,⟨72,2359296,some 24⟩,⟨512,16777216,some 25⟩,⟨1280,41943040,some 26⟩,⟨4095,67108864,some 4⟩],
  [⟨0,1,some 59⟩,⟨1,576460752303423488,some 60⟩,⟨2,1152921504606846976,some 61⟩,⟨4,2305843009213693953,some 62⟩,⟨4,2305843009213693956,some 63⟩,⟨20,11529215046068469760,some 64⟩,⟨12,6917529027641081856,some 65⟩,⟨68,39199331156632797184,some 66⟩,⟨164,94539563377761452032,some 67⟩,⟨260,149879795598890106880,some 68⟩,⟨4,2305843009213693953,some 69⟩,⟨4,2305843009213693956,some 70⟩,⟨2052,1182897463726624997376,some 71⟩,⟨1028,592601653367919345664,some 72⟩,⟨8196,4724672325878858907648,some 73⟩,⟨20484,11808222050183326728192,some 74⟩,⟨32772,18891771774487794548736,some 75⟩,⟨66052,38076385611145728229376,some 76⟩,⟨131076,75560169568923537113088,some 77⟩],
  [⟨0,1,some 78⟩,⟨0,4,some 79⟩,⟨2,604462909807314587353088,some 80⟩,⟨0,1,some 81⟩,⟨0,4,some 82⟩,⟨16,4835703278458516698824704,some 83⟩,⟨8,2417851639229258349412352,some 84⟩,⟨64,19342813113834066795298816,some 85⟩,⟨160,48357032784585166988247040,some 86⟩,⟨256,77371252455336267181195264,some 87⟩,⟨517,156253662185190820830773248,some 88⟩],
  [⟨0,1,some 6⟩,⟨0,1,some 7⟩,⟨0,2,some 8⟩,⟨0,32,some 9⟩,⟨5,64,some 10⟩,⟨21,1024,some 11⟩,⟨37,2048,some 12⟩,⟨69,4352,none⟩,⟨255,128,some 13⟩,⟨511,8192,some 14⟩,⟨767,16384,some 15⟩,⟨1279,33280,none⟩],
  [⟨0,1,some 41⟩,⟨1,2199023255552,some 42⟩,⟨2,4398046511104,some 43⟩,⟨4,8796093022208,some 44⟩,⟨8,17592186044416,some 45⟩,⟨16,35184372088832,some 46⟩,⟨32,70368744177665,some 47⟩,⟨96,211106232532992,some 48⟩,⟨160,351843720888320,some 49⟩,⟨288,633318697598976,some 50⟩,⟨544,1196268651020288,some 51⟩,⟨1056,2322168557862912,some 52⟩,⟨2080,4573968371548160,some 53⟩,⟨4128,9077567998918656,some 54⟩,⟨10240,18014398509481984,some 55⟩,⟨16384,36028797018963969,some 56⟩,⟨16384,36028797018963984,some 57⟩,⟨49152,108086391056891904,some 58⟩,⟨147456,324259173170675712,some 59⟩,⟨344064,756604737398243328,some 60⟩,⟨540672,1188950301625810944,some 61⟩,⟨16384,36028797018963969,some 62⟩,⟨2113536,4647714815446351872,some 63⟩,⟨4210688,9259400833873739776,some 64⟩,⟨8404992,18482772870728515584,some 65⟩,⟨16793600,36929516944438067200,some 66⟩,⟨33570816,73823005091857170432,some 67⟩,⟨68173824,149915824395909070848,some 68⟩,⟨134234112,295183933976371789824,some 69⟩],
  [⟨0,1,some 30⟩,⟨0,1,some 31⟩,⟨2,2147483648,some 32⟩,⟨4,4294967296,some 33⟩,⟨8,8589934592,some 34⟩,⟨16,17179869184,some 35⟩,⟨32,34359738368,some 36⟩,⟨0,1,some 37⟩,⟨128,137438953472,some 38⟩,⟨256,274877906944,some 39⟩,⟨512,549755813888,some 40⟩,⟨1024,1099511627776,some 41⟩,⟨2048,2199023255552,some 42⟩,⟨4161,4467839729664,some 43⟩],
  [⟨0,1,some 28⟩,⟨0,1,some 29⟩,⟨2,536870912,some 30⟩,⟨4,1073741824,some 31⟩,⟨8,2147483648,some 32⟩,⟨16,4294967296,some 33⟩,⟨0,8,some 34⟩,⟨64,17179869184,some 35⟩,⟨128,34359738368,some 36⟩,⟨288,77309411328,some 37⟩,⟨1023,268435456,some 38⟩,⟨2047,274877906944,some 39⟩,⟨3071,549755813888,some 40⟩,⟨5119,1236950581248,none⟩],
  [⟨0,1,some 56⟩,⟨1,72057594037927936,some 57⟩,⟨2,144115188075855872,some 58⟩,⟨4,288230376151711744,some 59⟩,⟨8,576460752303423488,some 60⟩,⟨16,1152921504606846976,some 61⟩,⟨0,1,some 62⟩,⟨64,4611686018427387904,some 63⟩,⟨160,11529215046068469760,some 64⟩],
  [⟨0,1,some 78⟩,⟨1,302231454903657293676544,some 79⟩,⟨2,604462909807314587353088,some 80⟩,⟨4,1208925819614629174706176,some 81⟩,⟨0,1,some 82⟩,⟨16,4835703278458516698824704,some 83⟩,⟨32,9671406556917033397649408,some 84⟩,⟨64,19342813113834066795298816,some 85⟩,⟨128,38685626227668133590597632,some 86⟩,⟨256,77371252455336267181195264,some 87⟩,⟨512,154742504910672534362390528,some 88⟩,⟨1032,311902861460574327074193408,some 89⟩,⟨4095,618970019642690137449562112,some 4⟩],
  [⟨0,8,some 8⟩,⟨1,256,some 9⟩,⟨2,512,some 10⟩,⟨4,1024,some 11⟩,⟨8,2056,some 12⟩,⟨24,6144,some 13⟩,⟨40,10240,some 14⟩,⟨72,18432,some 15⟩,⟨136,32768,some 16⟩,⟨256,65544,some 17⟩,⟨768,196608,some 18⟩,⟨256,65537,some 19⟩,⟨2304,589824,some 20⟩,⟨4352,1114112,some 21⟩,⟨8448,2162688,some 22⟩,⟨16640,4259840,some 23⟩,⟨34048,8716288,some 24⟩,⟨65792,16842752,some 25⟩,⟨262143,33554432,some 4⟩],
  [⟨0,1,some 44⟩,⟨1,17592186044416,some 45⟩,⟨2,35184372088832,some 46⟩,⟨0,1,some 47⟩,⟨8,140737488355328,some 48⟩,⟨16,281474976710656,some 49⟩,⟨32,562949953421312,some 50⟩,⟨64,1125899906842624,some 51⟩,⟨0,1,some 52⟩,⟨256,4503599627370496,some 53⟩,⟨512,9007199254740992,some 54⟩,⟨1024,18014398509481984,some 55⟩,⟨2048,36028797018963968,some 56⟩,⟨4224,72057594037927936,some 57⟩,⟨8320,146366987889541120,some 58⟩,⟨16388,288300744895889408,some 59⟩,⟨65535,576460752303423504,none⟩],
  [⟨0,1,some 65⟩,⟨1,36893488147419103232,some 66⟩,⟨2,73786976294838206464,some 67⟩,⟨0,1,some 68⟩,⟨8,295147905179352825856,some 69⟩,⟨16,590295810358705651712,some 70⟩,⟨32,1180591620717411303424,some 71⟩,⟨64,2361183241434822606848,some 72⟩,⟨128,4722366482869645213696,some 73⟩,⟨260,9592306918328966840320,some 74⟩,⟨1023,18889465931478580854800,none⟩],
  [⟨0,1,some 80⟩,⟨1,1208925819614629174706176,some 81⟩,⟨2,2417851639229258349412352,some 82⟩,⟨0,0,some 83⟩,⟨8,9671406556917033397649408,some 84⟩,⟨20,24178516392292583494123520,some 85⟩,⟨63,38685626227668133590597648,none⟩],
  [⟨0,8,some 86⟩,⟨1,77371252455336267181195264,some 87⟩,⟨0,1,some 88⟩,⟨4,309485009821345068724781056,some 89⟩,⟨8,618970019642690137449562112,some 90⟩,⟨16,1237940039285380274899124224,some 91⟩,⟨34,2630622583481433084160638976,some 92⟩,⟨64,4951760157141521099596496896,some 93⟩],
  [⟨0,1,some 94⟩,⟨1,19807040628566084398385987584,some 95⟩,⟨2,39614081257132168796771975168,some 96⟩,⟨0,0,some 97⟩,⟨8,158456325028528675187087900672,some 98⟩,⟨20,396140812571321687967719751680,some 99⟩,⟨63,633825300114114700748351602704,none⟩],
  [⟨0,1,some 106⟩,⟨1,81129638414606681695789005144064,some 107⟩,⟨2,162259276829213363391578010288128,some 108⟩,⟨0,0,some 109⟩,⟨0,1,some 110⟩,⟨16,1298074214633706907132624082305024,some 111⟩,⟨32,2596148429267413814265248164610048,some 112⟩,⟨64,5192296858534827628530496329220096,some 113⟩,⟨0,1,some 114⟩,⟨256,20769187434139310514121985316880384,some 115⟩,⟨512,41538374868278621028243970633760768,some 116⟩,⟨1024,83076749736557242056487941267521536,some 117⟩,⟨0,1,some 118⟩,⟨4096,332306998946228968225951765070086144,some 119⟩,⟨8192,664613997892457936451903530140172288,some 120⟩,⟨16384,1329227995784915872903807060280344576,some 121⟩,⟨34824,2824609491042946229920590003095732224,some 122⟩,⟨65672,5327945613964050000325855545820971008,some 123⟩,⟨131076,10634148484832985409957239638263332864,some 124⟩,⟨524287,21267647932558653966460912964485513232,none⟩],
  [⟨0,1,some 125⟩,⟨1,42535295865117307932921825928971026432,some 126⟩,⟨2,85070591730234615865843651857942052864,some 127⟩,⟨0,1,some 128⟩,⟨8,340282366920938463463374607431768211456,some 129⟩,⟨16,680564733841876926926749214863536422912,some 130⟩,⟨32,1361129467683753853853498429727072845824,some 131⟩,⟨64,2722258935367507707706996859454145691648,some 132⟩,⟨0,1,some 133⟩,⟨256,10889035741470030830827987437816582766592,some 134⟩,⟨512,21778071482940061661655974875633165533184,some 135⟩,⟨1024,43556142965880123323311949751266331066368,some 136⟩,⟨0,1,some 137⟩,⟨4096,174224571863520493293247799005065324265472,some 138⟩,⟨8192,348449143727040986586495598010130648530944,some 139⟩,⟨16384,696898287454081973172991196020261297061888,some 140⟩,⟨0,1,some 141⟩,⟨65536,2787593149816327892691964784081045188247552,some 142⟩,⟨131072,5575186299632655785383929568162090376495104,some 143⟩,⟨262144,11150372599265311570767859136324180752990208,some 144⟩,⟨557184,23694541773438787087881700664688884100104192,some 145⟩,⟨1050752,44694047200863741545133474438518163965476864,some 146⟩,⟨2097156,89203150935305953035374604777897161908027392,some 147⟩,⟨8388607,178405961588244985132285746181186892047843344,none⟩],
  [⟨0,1,some 150⟩,⟨1,1427247692705959881058285969449495136382746624,some 151⟩,⟨2,2854495385411919762116571938898990272765493248,some 152⟩,⟨0,0,some 153⟩,⟨0,1,some 154⟩,⟨16,22835963083295358096932575511191922182123945984,some 155⟩,⟨32,45671926166590716193865151022383844364247891968,some 156⟩,⟨64,91343852333181432387730302044767688728495783936,some 157⟩,⟨0,1,some 158⟩,⟨256,365375409332725729550921208179070754913983135744,some 159⟩,⟨512,730750818665451459101842416358141509827966271488,some 160⟩,⟨1024,1461501637330902918203684832716283019655932542976,some 161⟩,⟨0,1,some 162⟩,⟨4096,5846006549323611672814739330865132078623730171904,some 163⟩,⟨8192,11692013098647223345629478661730264157247460343808,some 164⟩,⟨16384,23384026197294446691258957323460528314494920687616,some 165⟩,⟨34824,49691055669250699218925284312353622668301706461184,some 166⟩,⟨65672,93730210475385797308859756185687244596527736291328,some 167⟩,⟨131076,187077918569126397369595891731562024496504896487424,some 168⟩,⟨524287,374144419156711147060143317175368453031918731001872,none⟩],
  [⟨0,1,some 169⟩,⟨1,748288838313422294120286634350736906063837462003712,some 170⟩,⟨2,1496577676626844588240573268701473812127674924007424,some 171⟩,⟨0,0,some 172⟩,⟨8,5986310706507378352962293074805895248510699696029696,some 173⟩,⟨20,14965776766268445882405732687014738121276749240074240,some 174⟩,⟨63,23945242826029513411849172299223580994042798784118800,none⟩],
  [⟨0,1,some 32⟩,⟨1,4294967296,some 33⟩,⟨2,8589934592,some 34⟩,⟨0,0,some 35⟩,⟨8,34359738368,some 36⟩,⟨20,85899345920,some 37⟩,⟨63,137438953488,none⟩],
  [⟨0,1,some 43⟩,⟨1,8796093022208,some 44⟩,⟨2,17592186044416,some 45⟩,⟨0,1,some 46⟩,⟨8,70368744177664,some 47⟩,⟨16,140737488355328,some 48⟩,⟨32,281474976710656,some 49⟩,⟨64,562949953421312,some 50⟩,⟨128,1125899906842624,some 51⟩,⟨260,2286984185774080,some 52⟩,⟨1023,4503599627370512,none⟩],
  [⟨0,1,some 58⟩,⟨1,288230376151711744,some 59⟩,⟨2,576460752303423488,some 60⟩,⟨0,0,some 61⟩,⟨8,2305843009213693952,some 62⟩,⟨20,5764607523034234880,some 63⟩,⟨63,9223372036854775824,none⟩],
  [⟨0,8,some 64⟩,⟨1,18446744073709551616,some 65⟩,⟨0,1,some 66⟩,⟨4,73786976294838206464,some 67⟩,⟨8,147573952589676412928,some 68⟩,⟨16,295147905179352825856,some 69⟩,⟨34,627189298506124754944,some 70⟩,⟨64,1180591620717411303424,some 71⟩],
  [⟨0,1,some 72⟩,⟨1,4722366482869645213696,some 73⟩,⟨2,9444732965739290427392,some 74⟩,⟨0,0,some 75⟩,⟨8,37778931862957161709568,some 76⟩,⟨20,94447329657392904273920,some 77⟩,⟨63,151115727451828646838288,none⟩],
  [⟨0,1,some 87⟩,⟨1,154742504910672534362390528,some 88⟩,⟨2,309485009821345068724781056,some 89⟩,⟨4,618970019642690137449562112,some 90⟩,⟨8,1237940039285380274899124224,some 91⟩,⟨0,1,some 92⟩,⟨32,4951760157141521099596496896,some 93⟩,⟨64,9903520314283042199192993792,some 94⟩,⟨128,19807040628566084398385987584,some 95⟩,⟨256,39614081257132168796771975168,some 96⟩,⟨528,81704042592835098143342198784,some 97⟩],
  [⟨0,1,some 98⟩,⟨1,316912650057057350374175801344,some 99⟩,⟨2,633825300114114700748351602688,some 100⟩,⟨0,0,some 101⟩,⟨0,1,some 102⟩,⟨16,5070602400912917605986812821504,some 103⟩,⟨32,10141204801825835211973625643008,some 104⟩,⟨64,20282409603651670423947251286016,some 105⟩,⟨0,1,some 106⟩,⟨256,81129638414606681695789005144064,some 107⟩,⟨512,162259276829213363391578010288128,some 108⟩,⟨1024,324518553658426726783156020576256,some 109⟩,⟨0,1,some 110⟩,⟨4096,1298074214633706907132624082305024,some 111⟩,⟨8192,2596148429267413814265248164610048,some 112⟩,⟨16384,5192296858534827628530496329220096,some 113⟩,⟨34824,11033630824386508710627304699592704,some 114⟩,⟨65672,20812287554547070313772873225863168,some 115⟩,⟨131076,41539642518878849257645467336966144,some 116⟩,⟨524287,83076749736557242056487941267521552,none⟩],
  [⟨0,1,some 117⟩,⟨1,166153499473114484112975882535043072,some 118⟩,⟨2,332306998946228968225951765070086144,some 119⟩,⟨0,1,some 120⟩,⟨8,1329227995784915872903807060280344576,some 121⟩,⟨16,2658455991569831745807614120560689152,some 122⟩,⟨32,5316911983139663491615228241121378304,some 123⟩,⟨64,10633823966279326983230456482242756608,some 124⟩,⟨128,21267647932558653966460912964485513216,some 125⟩,⟨260,43199909863009765869373729459111198720,some 126⟩,⟨1023,85070591730234615865843651857942052880,none⟩],
  [⟨0,1,some 133⟩,⟨1,10889035741470030830827987437816582766592,some 134⟩,⟨2,21778071482940061661655974875633165533184,some 135⟩,⟨0,0,some 136⟩,⟨0,1,some 137⟩,⟨16,174224571863520493293247799005065324265472,some 138⟩,⟨32,348449143727040986586495598010130648530944,some 139⟩,⟨64,696898287454081973172991196020261297061888,some 140⟩,⟨0,1,some 141⟩,⟨256,2787593149816327892691964784081045188247552,some 142⟩,⟨512,5575186299632655785383929568162090376495104,some 143⟩,⟨1024,11150372599265311570767859136324180752990208,some 144⟩,⟨0,1,some 145⟩,⟨4096,44601490397061246283071436545296723011960832,some 146⟩,⟨8192,89202980794122492566142873090593446023921664,some 147⟩,⟨16384,178405961588244985132285746181186892047843328,some 148⟩,⟨34824,379112668375020593406107210635022145601667072,some 149⟩,⟨65672,715104755213819864722135591016290623447629824,some 150⟩,⟨131076,1427291248848925761181609281399246402713812992,some 151⟩,⟨524287,2854495385411919762116571938898990272765493264,none⟩],
  [⟨0,1,some 154⟩,⟨1,22835963083295358096932575511191922182123945984,some 155⟩,⟨2,45671926166590716193865151022383844364247891968,some 156⟩,⟨0,1,some 157⟩,⟨8,182687704666362864775460604089535377456991567872,some 158⟩,⟨16,365375409332725729550921208179070754913983135744,some 159⟩,⟨32,730750818665451459101842416358141509827966271488,some 160⟩,⟨64,1461501637330902918203684832716283019655932542976,some 161⟩,⟨132,3014347126994987268795099967477333728040360869888,some 162⟩,⟨511,5846006549323611672814739330865132078623730171920,none⟩],
  [⟨0,1,some 163⟩,⟨1,11692013098647223345629478661730264157247460343808,some 164⟩,⟨2,23384026197294446691258957323460528314494920687616,some 165⟩,⟨0,0,some 166⟩,⟨8,93536104789177786765035829293842113257979682750464,some 167⟩,⟨20,233840261972944466912589573234605283144949206876160,some 168⟩,⟨63,374144419156711147060143317175368453031918731001872,none⟩],
  [⟨0,1,some 169⟩,⟨1,748288838313422294120286634350736906063837462003712,some 170⟩,⟨2,1496577676626844588240573268701473812127674924007424,some 171⟩,⟨0,1,some 172⟩,⟨8,5986310706507378352962293074805895248510699696029696,some 173⟩,⟨16,11972621413014756705924586149611790497021399392059392,some 174⟩,⟨32,23945242826029513411849172299223580994042798784118784,some 175⟩,⟨68,50883641005312716000179491135850109612340947416252416,some 176⟩,⟨255,95780971304118053647396689196894323976171195136475152,none⟩],
  [⟨0,1,some 10⟩,⟨0,4,some 11⟩,⟨0,128,some 12⟩,⟨1,1024,some 13⟩,⟨8,8192,some 14⟩,⟨23,18432,some 15⟩,⟨39,36864,none⟩],
  [⟨0,1,some 6⟩,⟨0,1,some 7⟩,⟨2,128,some 8⟩,⟨4,256,some 9⟩,⟨8,512,some 10⟩,⟨0,1,some 11⟩,⟨32,2048,some 12⟩,⟨64,4096,some 13⟩,⟨128,8192,some 14⟩,⟨256,16384,some 15⟩,⟨512,32768,some 16⟩,⟨1024,65536,some 17⟩,⟨0,2,some 18⟩,⟨0,4,some 19⟩,⟨14336,917504,some 20⟩,⟨16384,1048576,some 21⟩,⟨34832,2098176,some 22⟩,⟨131071,64,some 23⟩,⟨262143,8388608,some 24⟩,⟨393215,20971520,none⟩],
  [⟨0,1,some 4⟩,⟨0,2,some 5⟩,⟨0,0,some 6⟩,⟨0,1,some 7⟩,⟨8,128,some 8⟩,⟨16,256,some 9⟩,⟨32,512,some 10⟩,⟨64,1024,some 11⟩,⟨0,1,some 12⟩,⟨256,4096,some 13⟩,⟨512,8192,some 14⟩,⟨1024,16384,some 15⟩,⟨2048,32768,some 16⟩,⟨4100,65536,some 17⟩,⟨8324,133184,some 18⟩,⟨24579,262192,some 19⟩],
  [⟨0,1,some 2⟩,⟨1,4,some 3⟩,⟨2,8,some 4⟩,⟨4,16,some 5⟩,⟨8,32,some 6⟩,⟨0,1,some 7⟩,⟨32,128,some 8⟩,⟨64,256,some 9⟩,⟨128,512,some 10⟩,⟨272,1088,some 11⟩],
  [⟨0,1,some 12⟩,⟨0,1,some 13⟩,⟨2,8192,some 14⟩,⟨4,16384,some 15⟩,⟨8,32768,some 16⟩,⟨0,1,some 17⟩,⟨32,131072,some 18⟩,⟨64,262144,some 19⟩,⟨128,524288,some 20⟩,⟨256,1048576,some 21⟩,⟨528,2162688,some 22⟩,⟨1024,4194304,some 11⟩,⟨2048,2048,some 23⟩,⟨2048,2048,some 24⟩,⟨8191,4096,some 25⟩,⟨24575,33554432,some 26⟩,⟨40959,67108864,some 27⟩,⟨73727,142606336,none⟩],
  [⟨0,1,some 62⟩,⟨0,1,some 63⟩,⟨2,9223372036854775808,some 64⟩,⟨4,18446744073709551616,some 65⟩,⟨8,36893488147419103232,some 66⟩,⟨0,1,some 67⟩,⟨32,147573952589676412928,some 68⟩,⟨80,368934881474191032320,some 69⟩,⟨128,590295810358705651712,some 61⟩,⟨256,2305843009213693952,some 70⟩,⟨256,2305843009213693952,some 71⟩,⟨1023,4611686018427387904,some 72⟩,⟨3071,4722366482869645213696,some 73⟩,⟨5119,9444732965739290427392,some 74⟩,⟨9215,20070057552195992158208,none⟩],
  [⟨0,1,some 78⟩,⟨0,1,some 79⟩,⟨2,604462909807314587353088,some 80⟩,⟨4,1208925819614629174706176,some 81⟩,⟨8,2417851639229258349412352,some 82⟩,⟨0,1,some 83⟩,⟨32,9671406556917033397649408,some 84⟩,⟨64,19342813113834066795298816,some 85⟩,⟨128,38685626227668133590597632,some 86⟩,⟨256,77371252455336267181195264,some 87⟩,⟨512,154742504910672534362390528,some 88⟩,⟨1040,314320713099803585423605760,some 89⟩,⟨2048,618970019642690137449562112,some 77⟩,⟨4096,151115727451828646838272,some 90⟩,⟨4096,151115727451828646838272,some 91⟩,⟨16383,302231454903657293676544,some 92⟩,⟨49151,4951760157141521099596496896,some 93⟩,⟨81919,9903520314283042199192993792,some 94⟩,⟨147455,21044980667851464673285111808,none⟩],
  [⟨0,8,some 11⟩,⟨0,1,some 12⟩,⟨0,32,some 13⟩,⟨6,12288,some 14⟩,⟨8,16384,some 15⟩,⟨17,34816,some 16⟩],
  [⟨0,1,some 20⟩,⟨0,2,some 21⟩,⟨3,3145728,some 22⟩,⟨0,1,some 23⟩,⟨0,4,some 24⟩,⟨24,25165824,some 25⟩,⟨36,37748736,some 26⟩,⟨127,67108864,some 0⟩]]
theorem bX:kQ tab sched infos=true:=by kernel_rfl
end Go.Proofs.YthomdlajobnmnaaGreatDoor
set_option linter.unusedSimpArgs false
set_option linter.unusedVariables false
namespace Go.Rex
open Go.WideShapes Go.ChangeShapes Go.RowKit
def qF:List SB→Bool
 | []=>true
 | b :: r=>b.gone && qF r
theorem yZ:∀{l:List SB} {k:Nat} {sb:SB},qF l=true→l[k]?=some sb→sb.gone=true
 | b :: r,0,sb,h,hk=>by
  simp only [qF,Bool.and_eq_true] at h
  simp at hk
  subst hk
  exact h.1
 | b :: r,k+1,sb,h,hk=>by
  simp only [qF,Bool.and_eq_true] at h
  exact yZ h.2 (by simpa using hk)
theorem X5 {P:Program} {k:dQ} {pre post:Env→Prop} (hf:∃fn,P.funcs[k.f]?=some fn∧fn.body.isSome=true∧(fn.name == "runtime.NumGoroutine")=false) (hg:qF k.hp'=true)
  (hrun:∀ρ ν w,aH ρ ν k.hp w→iQ ν k.gl→pre ρ.num→Calls P k.f (k.args.map (·.den ρ ν)).toArray w fun e w'=>e=.returned (k.ret.den ρ ν)∧w'=w) (hpost:∀ρ:Env,pre ρ.num→post ρ.num):bg P k pre post:=by
 refine ⟨hf,fun ρ ν w iw hgl hpre=>(hrun ρ ν w iw hgl hpre).mono ?_⟩
 rintro e w' ⟨rfl,rfl⟩
 have hd:∀(j:Nat) (sb:SB),k.hp'[j]?=some sb→sb.dead ρ=true:=fun j sb hj=>by
  unfold SB.dead
  rw [yZ hg hj]
  rfl
 refine ⟨ρ,ν,dF.refl _ _ _ _,rfl,⟨fun i j a b hi hj da=>?_,fun j sb hj dj=>?_,fun j sb hj dj=>?_⟩,bA.refl _ _,fun j sb hj _ dj=>?_,hpost ρ hpre⟩
 ·rw [hd i a hi] at da;cases da
 ·rw [hd j sb hj] at dj;cases dj
 ·rw [hd j sb hj] at dj;cases dj
 ·rw [hd j sb hj] at dj;cases dj
def jd (err:TypeId):List (Nat × TypeId × TypeId)→Nat→List SB
 | [],_=>[]
 | (_,tp,te) :: r,k=>{t:=err,cs:=[.iface tp (.ptr {aC:=k+1})],ro:=true} :: {t:=500000+te,cs:=[.hole],ro:=true} :: jd err r (k+2)
def gK:List (Nat × TypeId × TypeId)→Nat→List (Nat × Nat)
 | [],_=>[]
 | (g,_) :: r,k=>(g,k) :: (1000000+g,k+1) :: gK r (k+2)
def rC (W:World):List (Nat × TypeId × TypeId)→List Addr→Prop
 | [],[]=>True
 | (g,tp,_) :: r,a :: aS0=>W.cell? ⟨g,0,none⟩=some (.iface tp (.pointer (some a)))∧(∃v,W.cell? a=some v)∧rC W r aS0
 | _,_=>False
def BD:List (Nat × TypeId × TypeId)→List Addr→Nat→Addr
 | (g,_) :: _,_ :: _,0=>⟨g,0,none⟩
 | _ :: _,a :: _,1=>a
 | _ :: r,_ :: aS0,k+2=>BD r aS0 k
 | _,_,_=>⟨0,0,none⟩
theorem GK (err:TypeId):∀(ss:List (Nat × TypeId × TypeId)) (k:Nat),(jd err ss k).length=2 * ss.length
 | [],_=>rfl
 | (_,_,_) :: r,k=>by simp only [jd,List.length_cons,GK err r (k+2)];omega
theorem Qm {W:World} {a:Addr} {v:Value} (h:W.cell? a=some v):a.block<W.heap.size:=by
 unfold World.cell? at h
 split at h
 ·rename_i hx
  exact (Array.getElem?_eq_some_iff.1 hx).1
 all_goals cases h
theorem Qn {ρ:Env} {ν:Nat→Addr} {t:TypeId} {c:SC} {v:Value} {ro:Bool} (h:c.isHole=false→v=c.den ρ ν):SB.has ρ ν {t:=t,cs:=[c],ro:=ro} #[v]:=by
 refine ⟨fun u hu=>(by cases hu),fun _ _=>rfl,fun e n h=>(by cases h),fun p c' hp hh=>?_,fun gi g hg=>(by simp at hg)⟩
 cases p with
 | zero =>
  simp at hp
  subst hp
  simp [h hh]
 | succ p=>simp at hp
theorem Qo {ρ:Env} {ν:Nat→Addr} {W:World} {err:TypeId}:∀{ss:List (Nat × TypeId × TypeId)} {aS0:List Addr} {k:Nat},rC W ss aS0→Nat.blt err 500000=true→(∀a∈aS0,∃c t,W.heap[a.block]?=some (.cells c t (0,0)))→(∀j,j<2 * ss.length→ν (k+j)=BD ss aS0 j) →
  (∀(i:Nat) (sb:SB),(jd err ss k)[i]?=some sb→RL ρ ν W (k+i) sb)∧∀g m,Nat.blt g 1000000=true→assoc g (gK ss k)=some m→ν m=⟨g,0,none⟩
 | [],[],_,_,_,_,_=>⟨fun i sb h=>by simp [jd] at h,fun g m _ h=>by simp [gK,assoc] at h⟩
 | (g,tp,te) :: r,a :: aS0,k,h,he,hsh,hn=>by
  obtain ⟨h1,⟨v,h2⟩,h3⟩:=h
  have e0:ν k=⟨g,0,none⟩:=hn 0 (by simp only [List.length_cons];omega)
  have e1:ν (k+1)=a:=hn 1 (by simp only [List.length_cons];omega)
  obtain ⟨i1,i2⟩:=Qo (ρ:=ρ) (ν:=ν) (err:=err) (k:=k+2) h3 he (fun a ha=>hsh a (List.mem_cons_of_mem _ ha)) fun j hj=>by
   have:=hn (j+2) (by simp only [List.length_cons];omega)
   rw [show k+2+j=k+(j+2) by omega,this]
   rfl
  refine ⟨fun i sb hi=>?_,fun g' m hg6 hm=>?_⟩
  ·match i,hi with
   | 0,hi =>
    simp [jd] at hi
    subst hi
    refine ⟨⟨rfl,rfl⟩,fun _=>⟨⟨by rw [Nat.add_zero,e0];exact Qm h1,fun _ h=>absurd h (by simp only [Nat.blt_eq] at he;simp [Nat.not_le.2 he])⟩,#[.iface tp (.pointer (some a))],Qn fun _=>?_,fun p v' hp=>?_⟩⟩
    ·simp [SC.den,SA.den,SA.off,e1,IE.den,Addr.add]
    ·cases p with
     | zero =>
      simp at hp
      subst hp
      rw [Nat.add_zero,e0]
      exact h1
     | succ p=>simp at hp
   | 1,hi =>
    simp [jd] at hi
    subst hi
    refine ⟨⟨rfl,rfl⟩,fun _=>⟨⟨by rw [e1];exact Qm h2,fun _ _=>by rw [e1];exact hsh a (List.mem_cons_self ..)⟩,#[v],Qn fun hh=>(by cases hh),fun p v' hp=>?_⟩⟩
    cases p with
    | zero =>
     simp at hp
     subst hp
     rw [e1]
     simpa [Addr.add] using h2
    | succ p=>simp at hp
   | i+2,hi =>
    have:=i1 i sb (by simpa [jd] using hi)
    rwa [show k+2+i=k+(i+2) by omega] at this
  ·unfold gK assoc at hm
   split at hm
   ·rename_i hk
    simp at hk hm
    subst hk
    subst hm
    exact e0
   ·unfold assoc at hm
    split at hm
    ·rename_i hk
     simp only [beq_iff_eq] at hk
     simp only [Nat.blt_eq] at hg6
     omega
    ·exact i2 g' m hg6 hm
theorem ED {ν:Nat→Addr} {W:World}:∀{ss:List (Nat × TypeId × TypeId)} {aS0:List Addr} {k:Nat},rC W ss aS0→(ss.all fun x=>Nat.blt x.1 1000000)=true→(∀j,j<2 * ss.length→ν (k+j)=BD ss aS0 j) →
  ∀g m,Nat.blt g 1000000=false→assoc g (gK ss k)=some m→∃(i:Nat) (a:Addr),(ss.map (·.1))[i]?=some (g-1000000)∧aS0[i]?=some a∧ν m=a
 | [],[],_,_,_,_,g,m,_,h=>by simp [gK,assoc] at h
 | (g0,tp,te) :: r,a :: aS0,k,h,hs,hn,g,m,h6,hm=>by
  obtain ⟨-,-,h3⟩:=h
  simp only [List.all_cons,Bool.and_eq_true] at hs
  unfold gK assoc at hm
  split at hm
  ·rename_i hk
   simp only [beq_iff_eq] at hk
   subst hk
   rw [hs.1] at h6
   cases h6
  ·unfold assoc at hm
   split at hm
   ·rename_i hk
    simp only [beq_iff_eq] at hk
    simp only [Option.some.injEq] at hm
    subst hm
    exact ⟨0,a,by simp [←hk],rfl,hn 1 (by simp only [List.length_cons];omega)⟩
   ·obtain ⟨i,b,q1,q2,q3⟩:=ED (ν:=ν) (k:=k+2) h3 hs.2 (fun j hj=>by
       have:=hn (j+2) (by simp only [List.length_cons];omega)
       rw [show k+2+j=k+(j+2) by omega,this]
       rfl) g m h6 hm
    exact ⟨i+1,b,by simpa using q1,by simpa using q2,q3⟩
theorem abD {ν:Nat→Addr} {W:World} {ss:List (Nat × TypeId × TypeId)} {aS0:List Addr} {k:Nat} (h:rC W ss aS0) (hs:(ss.all fun x=>Nat.blt x.1 1000000)=true) (hn:∀j,j<2 * ss.length→ν (k+j)=BD ss aS0 j) (hnd:aS0.Nodup)
  (g g' m m':Nat) (h1:Nat.blt g 1000000=false) (h2:Nat.blt g' 1000000=false) (h3:assoc g (gK ss k)=some m) (h4:assoc g' (gK ss k)=some m') (hne:g≠g'):ν m≠ν m':=by
 obtain ⟨i,a,q1,q2,rfl⟩:=ED h hs hn g m h1 h3
 obtain ⟨j,b,r1,r2,rfl⟩:=ED h hs hn g' m' h2 h4
 intro e
 have hij:i≠j:=fun e=>by
  subst e
  rw [q1] at r1
  simp only [Option.some.injEq] at r1
  have h1':¬g<1000000:=fun h=>by rw [←Nat.blt_eq] at h;rw [h1] at h;cases h
  have h2':¬g'<1000000:=fun h=>by rw [←Nat.blt_eq] at h;rw [h2] at h;cases h
  omega
 have hi:=(List.getElem?_eq_some_iff.1 q2)
 have hj:=(List.getElem?_eq_some_iff.1 r2)
 obtain ⟨li,hi⟩:=hi
 obtain ⟨lj,hj⟩:=hj
 rcases Nat.lt_or_gt_of_ne hij with h | h
 ·exact List.pairwise_iff_getElem.1 hnd i j li lj h (by rw [hi,hj,e])
 ·exact List.pairwise_iff_getElem.1 hnd j i lj li h (by rw [hi,hj,e])
section
variable {H:Type} {enc:TypeId × Value→H} {P:Program} {W:World}
def iK (err:TypeId) (ss:List (Nat × TypeId × TypeId)) (f:FuncId) (sh:List (Bool × List FK)):dQ :=
 let m:=rT (sh.flatMap (·.2)) 0 (2 * ss.length)
 {f:=f,nv:=m.2.2,gl:=gK ss 0,args:=xk (sh.map fun s=>(s.1,s.2.length)) m.1,hp:=jd err ss 0 ++ m.2.1,jf:=m.2.2+1,ret:=.w (.one (.bool (.var m.2.2))),hp':=(jd err ss 0 ++ m.2.1).map fun _=>ed}
def za (ss:List (Nat × TypeId × TypeId)) (sh:List (Bool × List FK)) (ρ:Env):Prop:=ρ.bv (rT (sh.flatMap (·.2)) 0 (2 * ss.length)).2.2=true
theorem Vb (laid:laidOutB P=true) {f:FuncId} {fn:Func} {s:ChangeSpec} {apart fresh handsOn again:Bool} {sh:List (Bool × List FK)} {tb:TypeId} (hsh:yQ P fn.params.toList=some sh) (hread:CY P fn.params.toList=true)
  (hvars:s.vars=[]) (hres:fn.resultTypes=#[tb]) (hb:P.underlying tb=some .bool)
  (hspec:∀(H:Type) (ds:List (DataW H)),ds.length=fn.params.toList.length→(s.fn H ds).results=[.lit (.bool true)]∧(s.fn H ds).args=ds∧(s.fn H ds).vars=[])
  {err:TypeId} {ss:List (Nat × TypeId × TypeId)} {aS0:List Addr} (Z6:rC W ss aS0) (ahM:aS0.Nodup) (ahN:∀a∈aS0,∃c t,W.heap[a.block]?=some (.cells c t (0,0))) (he5:Nat.blt err 500000=true) (hs6:(ss.all fun x=>Nat.blt x.1 1000000)=true) (hcon:bg P (iK err ss f sh) (Bz sh) (za ss sh)) {base:Nat} {args:Array Value} {ds gs:List (DataW H)} {before:List MemPlace}
  (hval:∀(j:Nat) t v,fn.params[j]?=some t→args[j]?=some v→Value.okWide P W .any base t v)
  (hW:DataW.Whole enc P fn.params.toList s.vars apart W args.toList ds gs before) :
  Calls P f args W fun e W'=>∃v,e=.returned v∧s.post enc P fn apart fresh handsOn again W args v W':=by
 have hW':=hW
 obtain ⟨p,q,hA,hV,rfl,hfz,hnd⟩:=hW
 rw [hvars] at hV
 obtain ⟨rfl,rfl⟩:=trodVars_none hV
 obtain ⟨h1,h2,h3,h4,h5⟩:=JY hsh hA (fun j t v hj hv=>hval j t v (by simpa using hj) (by simpa using hv))
 obtain ⟨ρ,ν,adw,hden,af0,hpre⟩:=Gw h1 h5 0 (2 * ss.length) {} (BD ss aS0)
 obtain ⟨hs1,hs2⟩:=Qo (ρ:=ρ) (ν:=ν) (err:=err) (k:=0) Z6 he5 ahN fun j hj=>by rw [Nat.zero_add];exact adw.bl j hj
 have hblk:∀(i:Nat) (sb:SB),(iK err ss f sh).hp[i]?=some sb→RL ρ ν W i sb:=fun i sb hi=>by
  have hi:(jd err ss 0 ++ (rT (sh.flatMap (·.2)) 0 (2 * ss.length)).2.1)[i]?=some sb:=hi
  rw [List.getElem?_append] at hi
  split at hi
  ·have:=hs1 i sb hi
   rwa [Nat.zero_add] at this
  ·rename_i hlt
   have:=af0 _ sb hi
   rw [GK] at hlt this
   rwa [show 2 * ss.length+(i-2 * ss.length)=i by omega] at this
 have hargs:((iK err ss f sh).args.map (·.den ρ ν)).toArray=args:=by
  have:=Gx (vs:=args.toList) (sh:=sh.map fun s=>(s.1,s.2.length)) (by simpa using h2) h4 hden
  show ((xk (sh.map fun s=>(s.1,s.2.length)) (rT (sh.flatMap (·.2)) 0 (2 * ss.length)).1).map (·.den ρ ν)).toArray=args
  rw [this]
 have iw:aH ρ ν (iK err ss f sh).hp W:=by
  refine ⟨fun i j a b hi hj ga gb ra he=>?_,fun k sb hk hg hr=>?_,fun k sb hk hg hr=>?_⟩
  ·have:=(hblk i a hi).1.1
   rw [ra] at this;cases this
  ·have:=(hblk k sb hk).1.1
   rw [hr] at this;cases this
  ·have:=(hblk k sb hk).2 hg
   exact this
 have hc:=hcon.run ρ ν W iw ⟨hs2,abD (k:=0) Z6 hs6 (fun j hj=>by rw [Nat.zero_add];exact adw.bl j hj) ahM⟩ (yP hpre)
 rw [hargs] at hc
 refine hc.mono fun e W' he=>?_
 obtain ⟨ρ',aK,-,rfl,-,M9,-,hpost⟩:=he
 have hbelow:Below W.heap.size W W':=by
  refine ⟨M9.os,M9.tape,M9.output,M9.size,fun k hk=>M9.block k hk ?_⟩
  rintro ⟨j,sb,hj,ho,-,-⟩
  have:=(hblk j sb hj).1.2
  rw [ho] at this;cases this
 have hret:(iK err ss f sh).ret.den ρ' aK=.bool true:=by
  have:ρ'.bv (rT (sh.flatMap (·.2)) 0 (2 * ss.length)).2.2=true:=hpost
  simp [iK,SV.den,SW.den,SC.den,BE.den,this]
 rw [hret]
 obtain ⟨s1,s2,s3⟩:=hspec H ds h3
 have hlt:∀x∈p,x.block<W.heap.size:=fun x hx=>hW'.lt x (List.mem_append_left _ hx)
 refine ⟨_,rfl,RN (pa:=p) (pv:=[]) hW' (fun b sp hd=>?_) (fun sp hsp=>?_) (fun sp _=>?_) rfl hbelow ?_⟩
 ·rw [List.append_nil,s1,hres]
  exact trodAll_mk1 ⟨1,by simp [DataW.trod,hb,Value.cells]⟩
 ·rw [List.append_nil,s2]
  exact zU laid hread hA (fun x hx=>hbelow.same (hlt x hx)) (fun x hx=>hsp x (List.mem_append_left _ hx))
 ·rw [List.append_nil,s3,hvars]
  rfl
 ·exact ok_one hres rfl (okWide_bool_mk hb true)
end
end Go.Rex
