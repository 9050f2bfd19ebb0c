/- part 4 of the proof -/
import Derived.Test.YthomdlajobnmnaaGreatDoorChecked
import Derived.KernelRfl
import Derived.Test.YthomdlajobnmnaaGreatDoorX3
namespace Go.Proofs.YthomdlajobnmnaaGreatDoor
open Go.Rex
abbrev z6:SC:=.int .i64 (.lit 0)
abbrev z0:SC:=.bool (.lit false)
def pW:List (Nat × TI):=tF [1,24,32,34,46,47,48,51,52,54,55,58,59,64,65,74,77,90,98,99,102,104,105,107,111,120,133,135,136,143,152,153,154,157,160,178,180,181,186,197,200,201,212,220,223,234,241] ++ (tC [20,35,36,131,132,190,193,194] ++ (tX [9,10,11] ++ (tP [(15,227),(16,230),(17,239),(29,97),(40,151),(41,130),(45,44),(70,123),(112,174),(118,185),(142,79),(161,163),(198,140),(210,169),(235,5)] ++ (tL [(23,3),(25,28),(30,45),(33,25),(42,39),(49,79),(67,70),(71,126),(95,140),(124,4),(144,207),(195,36),(203,149)] ++ [tS 2 (.int .i64) 8 (zr [1]) false,tS 3 (.int .i64) 8 (zr [1]) false,tS 4 (.bool) 1 (zr [0,1]) false,tS 5 (.int .u8) 1 ([SC.int IntKind.u8 (IE.lit (0))]) false,tS 6 (.int .u8) 1 ([SC.int IntKind.u8 (IE.lit (0))]) false,tS 7 (.struct [(0,2),(1,3),(2,4),(3,6)]) 24 (zr [2,1] ++ [SC.int IntKind.u8 (IE.lit (0))]) true,tS 8 (.struct [(0,2),(1,3),(2,4),(3,6)]) 24 (zr [2,1] ++ [SC.int IntKind.u8 (IE.lit (0))]) true,tS 12 (.int .u64) 8 ([SC.int IntKind.u64 (IE.lit (0))]) false,tS 13 (.struct [(0,9),(1,12)]) 24 ([SC.str [],SC.int IntKind.u64 (IE.lit (0))]) false,tS 14 (.struct [(0,9),(1,12)]) 24 ([SC.str [],SC.int IntKind.u64 (IE.lit (0))]) false,tS 18 (.struct [(0,17)]) 8 ([SC.dB]) false,tS 19 (.struct [(0,17)]) 8 ([SC.dB]) false,tS 21 (.int .i32) 4 ([SC.int IntKind.i32 (IE.lit (0))]) false,tS 22 (.arr 2 3) 16 (zr [2]) true,tS 26 (.int .u64) 8 ([SC.int IntKind.u64 (IE.lit (0))]) false,tS 27 (.struct [(0,3),(1,3),(2,3),(3,3)]) 32 (zr [4]) true,tS 28 (.struct [(0,3),(1,3),(2,3),(3,3)]) 32 (zr [4]) true,tS 38 (.struct [(0,3),(1,3)]) 16 (zr [2]) true,tS 39 (.struct [(0,3),(1,3)]) 16 (zr [2]) true,tS 43 (.struct [(0,40),(1,25),(2,41),(3,4),(4,42)]) 72 ([SC.dB,SC.dA,SC.dB] ++ zr [0,1] ++ [SC.dA]) true,tS 44 (.struct [(0,40),(1,25),(2,41),(3,4),(4,42)]) 72 ([SC.dB,SC.dA,SC.dB] ++ zr [0,1] ++ [SC.dA]) true,tS 66 (.arr 3 3) 24 (zr [3]) true,tS 79 (.struct [(0,3),(1,3),(2,3),(3,3),(4,4)]) 40 (zr [4,1]) true,tS 81 (.struct [(0,3),(1,3),(2,3)]) 24 (zr [3]) true,tS 83 (.struct [(0,3),(1,81),(4,79),(9,79),(14,3),(15,3),(16,39)]) 144 (zr [8,1,4,1,4]) true,tS 86 (.struct [(0,79),(5,4)]) 48 (zr [4,2]) true,tS 92 (.struct [(0,3),(1,81),(4,79),(9,79)]) 112 (zr [8,1,4,1]) true,tS 96 (.struct [(0,49),(1,95),(2,23),(3,3),(4,3),(5,36)]) 104 ([SC.dA,SC.dA,SC.dA] ++ zr [2] ++ [SC.dW]) false,tS 97 (.struct [(0,49),(1,95),(2,23),(3,3),(4,3),(5,36)]) 104 ([SC.dA,SC.dA,SC.dA] ++ zr [2] ++ [SC.dW]) false,tS 123 (.struct [(0,40),(1,25),(2,118),(3,4),(4,42)]) 72 ([SC.dB,SC.dA,SC.dB] ++ zr [0,1] ++ [SC.dA]) true,tS 126 (.struct [(0,3),(1,3)]) 16 (zr [2]) true,tS 127 (.struct [(0,3),(1,83)]) 152 (zr [9,1,4,1,4]) true,tS 128 (.struct [(0,3),(1,83)]) 152 (zr [9,1,4,1,4]) true,tS 130 (.struct [(0,128),(19,28),(23,79),(28,79),(33,3)]) 272 (zr [9,1,4,1,12,1,4,1,1]) true,tS 138 (.arr 10 79) 400 (zr [4,1,4,1,4,1,4,1,4,1,4,1,4,1,4,1,4,1,4,1]) true,tS 140 (.struct [(0,3),(1,4),(2,138)]) 416 (zr [1,1,4,1,4,1,4,1,4,1,4,1,4,1,4,1,4,1,4,1,4,1]) true,tS 146 (.struct [(0,83),(18,3),(19,92),(33,79),(38,79),(43,3),(44,49),(45,144)]) 400 (zr [8,1,4,1,13,1,4,1,4,1,4,1,1] ++ [SC.dA,SC.dA]) true,tS 147 (.arr 9 79) 360 (zr [4,1,4,1,4,1,4,1,4,1,4,1,4,1,4,1,4,1]) true,tS 149 (.struct [(0,4),(1,3),(2,3)]) 24 (zr [0,1,2]) true,tS 151 (.struct [(0,146),(46,3),(47,3),(48,3),(49,3),(50,147),(95,149),(98,144),(99,3),(100,86)]) 896 (zr [8,1,4,1,13,1,4,1,4,1,4,1,1] ++ [SC.dA,SC.dA] ++ zr [8,1,4,1,4,1,4,1,4,1,4,1,4,1,4,1,4,2,2] ++ [SC.dA] ++ zr [5,2]) true,tS 162 (.struct [(0,3),(1,36)]) 24 (zr [1] ++ [SC.dW]) false,tS 163 (.struct [(0,3),(1,36)]) 24 (zr [1] ++ [SC.dW]) false,tS 168 (.struct [(0,3),(1,83)]) 152 (zr [9,1,4,1,4]) true,tS 169 (.struct [(0,3),(1,83)]) 152 (zr [9,1,4,1,4]) true,tS 171 (.struct [(0,81),(3,79)]) 64 (zr [7,1]) true,tS 172 (.arr 3 171) 192 (zr [7,1,7,1,7,1]) true,tS 173 (.struct [(0,169),(19,171),(27,3),(28,3),(29,79),(34,3),(35,172),(59,79)]) 512 (zr [9,1,4,1,11,1,6,1,8,1,7,1,7,1,4,1]) true,tS 174 (.struct [(0,169),(19,171),(27,3),(28,3),(29,79),(34,3),(35,172),(59,79)]) 512 (zr [9,1,4,1,11,1,6,1,8,1,7,1,7,1,4,1]) true,tS 184 (.struct [(0,169),(19,28),(23,112),(24,79),(29,3),(30,3),(31,3)]) 256 (zr [9,1,4,1,8] ++ [SC.dB] ++ zr [4,1,3]) true,tS 185 (.struct [(0,169),(19,28),(23,112),(24,79),(29,3),(30,3),(31,3)]) 256 (zr [9,1,4,1,8] ++ [SC.dB] ++ zr [4,1,3]) true,tS 207 (.struct [(0,79),(5,3),(6,3)]) 56 (zr [4,1,2]) true,tS 227 (.struct [(0,17),(1,17),(2,17),(3,9)]) 40 ([SC.dB,SC.dB,SC.dB,SC.str []]) false,tS 228 (.arr 0 16) 0 (zr [0]) true,tS 230 (.struct [(0,228)]) 0 (zr [0]) false,tS 231 (.int .u32) 4 ([SC.int IntKind.u32 (IE.lit (0))]) false,tS 232 (.int .u8) 1 ([SC.int IntKind.u8 (IE.lit (0))]) false,tS 233 (.int .u8) 1 ([SC.int IntKind.u8 (IE.lit (0))]) false,tS 236 (.int .i32) 4 ([SC.int IntKind.i32 (IE.lit (0))]) false,tS 237 (.int .i32) 4 ([SC.int IntKind.i32 (IE.lit (0))]) false,tS 239 (.struct [(0,12),(1,12),(2,231),(3,232),(4,5),(5,5),(6,233),(7,234),(8,235),(9,236),(10,237)]) 48 ([SC.int IntKind.u64 (IE.lit (0)),SC.int IntKind.u64 (IE.lit (0)),SC.int IntKind.u32 (IE.lit (0)),SC.int IntKind.u8 (IE.lit (0)),SC.int IntKind.u8 (IE.lit (0)),SC.int IntKind.u8 (IE.lit (0)),SC.int IntKind.u8 (IE.lit (0)),SC.mI,SC.dB,SC.int IntKind.i32 (IE.lit (0)),SC.int IntKind.i32 (IE.lit (0))]) false,tS 253 (.int .u16) 2 ([SC.int IntKind.u16 (IE.lit (0))]) false,tS 254 (.struct [(0,236),(1,253),(2,253),(3,231),(4,231)]) 16 ([SC.int IntKind.i32 (IE.lit (0)),SC.int IntKind.u16 (IE.lit (0)),SC.int IntKind.u16 (IE.lit (0)),SC.int IntKind.u32 (IE.lit (0)),SC.int IntKind.u32 (IE.lit (0))]) false,tS 257 (.int .i32) 4 ([SC.int IntKind.i32 (IE.lit (0))]) false,tS 259 (.struct [(0,236),(1,237),(2,257),(3,257)]) 16 ([SC.int IntKind.i32 (IE.lit (0)),SC.int IntKind.i32 (IE.lit (0)),SC.int IntKind.i32 (IE.lit (0)),SC.int IntKind.i32 (IE.lit (0))]) false]))))
noncomputable def tab:bf:={pW:=pW,fns:=[(16,Tryz.f16),(24,Tryz.f24),(27,Tryz.f27),(28,Tryz.f28),(31,Tryz.f31),(32,Tryz.f32),(33,Tryz.f33),(34,Tryz.f34),(36,Tryz.f36),(37,Tryz.f37),(38,Tryz.f38),(39,Tryz.f39),(40,Tryz.f40),(41,Tryz.f41),(43,Tryz.f43),(44,Tryz.f44),(45,Tryz.f45),(46,Tryz.f46),(51,Tryz.f51),(52,Tryz.f52),(53,Tryz.f53),(54,Tryz.f54),(55,Tryz.f55),(56,Tryz.f56),(57,Tryz.f57),(61,Tryz.f61),(62,Tryz.f62),(63,Tryz.f63),(64,Tryz.f64),(65,Tryz.f65),(66,Tryz.f66),(67,Tryz.f67),(68,Tryz.f68),(69,Tryz.f69),(70,Tryz.f70),(71,Tryz.f71),(72,Tryz.f72),(73,Tryz.f73),(74,Tryz.f74),(75,Tryz.f75),(76,Tryz.f76),(77,Tryz.f77),(78,Tryz.f78),(79,Tryz.f79),(80,Tryz.f80),(83,Tryz.f83),(84,Tryz.f84),(85,Tryz.f85),(86,Tryz.f86),(87,Tryz.f87),(88,Tryz.f88),(89,Tryz.f89),(90,Tryz.f90),(91,Tryz.f91),(92,Tryz.f92),(93,Tryz.f93),(94,Tryz.f94),(95,Tryz.f95),(96,Tryz.f96),(97,Tryz.f97),(98,Tryz.f98),(99,Tryz.f99),(105,Tryz.f105),(106,Tryz.f106),(107,Tryz.f107),(108,Tryz.f108),(109,Tryz.f109),(110,Tryz.f110),(111,Tryz.f111),(112,Tryz.f112),(113,Tryz.f113),(114,Tryz.f114),(115,Tryz.f115),(116,Tryz.f116),(117,Tryz.f117),(118,Tryz.f118),(119,Tryz.f119),(120,Tryz.f120),(121,Tryz.f121),(122,Tryz.f122),(123,Tryz.f123),(124,Tryz.f124),(131,Tryz.f131),(132,Tryz.f132),(133,Tryz.f133),(134,Tryz.f134),(135,Tryz.f135),(136,Tryz.f136),(137,Tryz.f137),(138,Tryz.f138),(139,Tryz.f139),(140,Tryz.f140),(141,Tryz.f141),(142,Tryz.f142),(143,Tryz.f143),(144,Tryz.f144),(145,Tryz.f145),(146,Tryz.f146),(147,Tryz.f147),(148,Tryz.f148),(149,Tryz.f149),(150,Tryz.f150),(151,Tryz.f151),(152,Tryz.f152)],wraps:=[]}
set_option maxRecDepth 100000 in
theorem bM:dI Tryz.prog tab where
  pW:=by kernel_rfl
  fns:=W9 (P:=Tryz.prog) (l:=tab.fns) ⟨rfl,rfl,rfl,rfl,rfl,rfl,rfl,rfl,rfl,rfl,rfl,rfl,rfl,rfl,rfl,rfl,rfl,rfl,rfl,rfl,rfl,rfl,rfl,rfl,rfl,rfl,rfl,rfl,rfl,rfl,rfl,rfl,rfl,rfl,rfl,rfl,rfl,rfl,rfl,rfl,rfl,rfl,rfl,rfl,rfl,rfl,rfl,rfl,rfl,rfl,rfl,rfl,rfl,rfl,rfl,rfl,rfl,rfl,rfl,rfl,rfl,rfl,rfl,rfl,rfl,rfl,rfl,rfl,rfl,rfl,rfl,rfl,rfl,rfl,rfl,rfl,rfl,rfl,rfl,rfl,rfl,rfl,rfl,rfl,rfl,rfl,rfl,rfl,rfl,rfl,rfl,rfl,rfl,rfl,rfl,rfl,rfl,rfl,rfl,rfl,rfl,rfl,rfl,rfl,trivial⟩
  mixed:=by kernel_rfl
def sched:List ((FuncId × List Nat) × dC) :=
  [((16,[1,0,1,0,0]),.take 1 0<|cS [0,2]<|.nil none),
  ((16,[1,1,0]),cT [0,2]<|.alt 1 (cS [3,4,5,6]<|.nil none) 3 (cS [1,4,5,6]<|.nil none)),
  ((27,[1,0,1,0,0]),cT [1,2]<|cS [0,3]<|.nil none),
  ((28,[1,0,1,0,0,1,0,0,0]),cT [0,1,2,3,4,6,7,8,9]<|.take 5 2048<|cS [10,11]<|.nil none),
  ((32,[1,0,1,0,0]),.take 0 0<|.take 1 8<|cS [2,3]<|.nil none),
  ((32,[1,1,0,1,0,0]),.take 0 0<|.take 1 8<|cS [2,3]<|.nil none),
  ((32,[1,1,1,1,1,0,1,0,1,1,1,0,0]),cT [0,1,2,4,5]<|.take 3 1792<|cS [6,7,8,9,10]<|.drop<|.nil (some 10)),
  ((32,[1,1,1,1,1,0,1,0,1,1,1,0,1,0]),cT [0,1,2,3,5,6]<|.take 4 7680<|cS [7,8,9]<|.drop<|cS [10,11,12]<|.nil (some 9)),
  ((32,[1,1,1,1,1,1,0]),cT [0,1]<|.take 2 232<|.take 4 224<|cS [3,5]<|.drop<|cS [6,7]<|.nil (some 5)),
  ((34,[1,0,1,0,0]),.take 1 0<|cS [0,2]<|.nil none),
  ((52,[1,1,0,1,0,0,0,0,0,0,0,0,0,0,0,0,0,0,0,1,0,1,0]),cT [0,1,2]<|cS [3,4,5,6,7,8,9,10,11,12]<|.nil none),
  ((52,[1,1,0,1,0,0,0,0,0,0,0,0,0,0,0,0,0,1,0,1,0]),cT [0,1,2]<|cS [3,4,5,6,7,8,9,10,11]<|.nil none),
  ((52,[1,1,0,1,0,0,0,0,0,0,0,0,0,0,0,1,0,0,0]),cT [0,2,3,4,5]<|.take 1 384<|cS [6,7]<|.drop<|.solo 8<|.nil (some 7)),
  ((52,[1,1,0,1,0,0,0,0,0,0,0,0,0,0,0,1,0,1,0,1,0,0]),cT [0,1,2,3,4,5,6,8,9,10,11,13,14,15,16,18,19,20]<|.take 7 125829120<|.take 12 125829120<|.take 17 130023424<|cS [21,22,23]<|.drop<|cS [24,25,26]<|.nil (some 23)),
  ((52,[1,1,0,1,0,0,0,0,0,0,0,0,0,0,0,1,0,1,1,0,0]),cT [0,1,2,4,5,6]<|.take 3 256<|cS [7,8]<|.nil none),
  ((52,[1,1,0,1,0,0,0,0,0,0,0,0,0,0,0,1,0,1,1,1,0]),cT [0,1,2,3,4,6,7,8]<|.take 5 63488<|cS [9,10,11]<|.drop<|cS [12,13,14,15]<|.nil (some 11)),
  ((52,[1,1,0,1,0,0,0,0,0,0,0,0,0,0,0,1,0,1,1,1,1,0]),cT [0,1,2,3,4,5,9,10,11]<|.take 6 491904<|cT [7,8]<|cS [12,13,14,15]<|.drop<|cS [16,17,18]<|.nil (some 15)),
  ((52,[1,1,0,1,0,0,0,0,0,0,0,0,0,1,1,0,0]),cT [0,1,2,3,4,6,7,8]<|.take 5 31744<|cS [9,10]<|.drop<|cS [11,12,13,14]<|.nil (some 10)),
  ((53,[1,1,0]),cT [0,1,2,3,4,5,7,8,9,10,11,12]<|.take 6 49152<|.take 13 32768<|cS [14,15]<|.drop<|.nil (some 15)),
  ((65,[1,1,0]),cT [0,1,2,4,5,6]<|.take 3 7168<|cS [7,8,9,10,11,12]<|.nil none),
  ((65,[1,1,1,0]),cT [0,1,2,3,5,6,7]<|.take 4 30720<|cS [8,9,10,11,12,13,14]<|.drop<|.nil (some 14)),
  ((66,[1,1,0,1,0,0,0,1,1,0]),cT [0,1,3]<|.take 2 96<|cS [4,5]<|.drop<|.solo 6<|.nil (some 5)),
  ((67,[1,0,1,0,0]),cT [0,1,2,4]<|.take 3 192<|cS [5,6,7]<|.nil none),
  ((67,[1,1,0]),cT [0,1,2,4,7]<|.take 3 7680<|.take 5 7744<|cT [6,9,10]<|cS [8,11,12]<|.nil none),
  ((68,[1,1,0,1,1,1,1,1,1,1,1,1,1,1,1,1,0,0]),cS [0,1,2]<|cT [3,4,6,7,10,11,13,14]<|.take 5 393984<|.take 8 0<|.take 9 393216<|cS [12,15,16,17,18]<|.nil none),
  ((68,[1,1,0,1,1,1,1,1,1,1,1,1,1,1,1,1,0,1,0]),cT [0,1,3,4,6,7]<|.take 2 1024<|cS [5,8,9,10]<|.drop<|.nil (some 10)),
  ((73,[1]),cT [0,1,2,4,5,6]<|.take 3 3840<|cS [7,8,9,10,11]<|.drop<|.nil (some 11)),
  ((75,[1,1,1,0,1,1,1,0,1,1,0,0]),cS [0,1,2,3,4,5,6,7,8,9,10,11,12,13,14]<|cT [15,16,17,18,19,21,22,23,24]<|.take 20 402653184<|cS [25,26,27,28]<|.nil none),
  ((76,[1,1,0,0,0,1,1,0]),cT [0,1,2,3,4,5,7,8,9,10,11]<|.take 6 8192<|cS [12,13]<|.drop<|.nil (some 13)),
  ((77,[1,1,0,0,0,0,0,0,0,1,0]),cT [0,1,2,3,4,6]<|.take 5 15872<|cS [7,8,9]<|.drop<|cS [10,11,12,13]<|.nil (some 9)),
  ((77,[1,1,0,0,0,0,0,0,0,1,1,1,1,0]),cT [0,1,2,3,4,6]<|.take 5 256<|cS [7,8]<|.drop<|.nil (some 8)),
  ((77,[1,1,0,1,0,0]),cT [0,1,2,4,5,6,7]<|.take 3 6144<|cS [8,9,10,11]<|.drop<|.solo 12<|.nil (some 11)),
  ((78,[1,0,1,0,0]),cS [0,1,2,3,4,5,6,7,8]<|cT [9,11,12,13]<|.take 10 458752<|cS [14,15,16,17,18]<|.nil none),
  ((84,[1,0]),cT [0,1,2,3,5,6,7,9,10]<|.take 4 6144<|cS [8,11,12]<|.drop<|.nil (some 12)),
  ((84,[1,1,0,1,0,1,0,0]),cS [0,1,2,3,4,5,6,7]<|cT [8,9,10,12,13,14]<|.take 11 196608<|cS [15,16,17]<|.nil none),
  ((84,[1,1,1,1,1,1,0]),cT [0,1,2,3,4,5,9,10,11]<|.take 6 491904<|cT [7,8]<|cS [12,13,14,15]<|.drop<|cS [16,17,18]<|.nil (some 15)),
  ((85,[1,0]),cT [0,1,2,3,4,5,6,8,9,10,14,15,16]<|.take 7 3678208<|.take 11 3682304<|.take 12 0<|.take 17 3932160<|.take 18 0<|cS [13,19]<|.drop<|cS [20,21]<|.nil (some 19)),
  ((92,[1,1,0]),cT [0,1,2,3,4,5,9,10,11]<|.take 6 246144<|cT [7,8]<|cS [12,13,14]<|.drop<|cS [15,16,17]<|.nil (some 14)),
  ((93,[1,0]),cT [0,1,2,3,4,5,6,8,9,10]<|.take 7 114688<|cS [11,12,13,14]<|.drop<|cS [15,16]<|.nil (some 14)),
  ((95,[1,0,1,0,1,0,0,1,0,0]),cT [0,1,2,3,5,7,9,10,11]<|.take 6 114688<|.take 8 122880<|.take 12 122880<|cS [4,13,14]<|.drop<|cS [15,16]<|.nil (some 14)),
  ((95,[1,0,1,0,1,1,1,0,0,1,0,0]),cT [0,1,2]<|cS [3,4,5,6,7,8]<|.nil none),
  ((95,[1,0,1,0,1,1,1,1,1,0,0]),cT [0,1,2]<|cS [3,4,5,6,7,8]<|.nil none),
  ((95,[1,1,0,0]),cT [0,1,2]<|.take 3 3552<|.take 4 3552<|.alt 5 (cT [6,7,8]<|cS [9,10,11]<|.nil none) 9 (cS [5,6]<|cT [7,8]<|cS [10,11]<|.nil none)),
  ((95,[1,1,1,0]),cT [0,1,2]<|cS [3,4,5,6,7,8,9]<|.nil none),
  ((96,[1,0]),cT [0,1,2,4,5,6]<|.take 3 52992<|.take 7 52992<|.sU 8 (cT [9,10,11]<|.alt 12 (cS [13,14,15]<|.nil none) 13 (cS [12,14,15]<|.nil none)) 12 (.alt 8 (cT [9,10,11]<|cS [13,14,15]<|.nil none) 13 (cS [8,9]<|cT [10,11]<|cS [14,15]<|.nil none)) 13 (.alt 8 (cT [9,10,11]<|cS [12,14,15]<|.nil none) 12 (cS [8,9]<|cT [10,11]<|cS [14,15]<|.nil none))),
  ((96,[1,1,0,1,0,0,0,0,0,0,0,1,0,1,0,0]),.take 0 0<|.take 1 52<|.take 3 48<|cS [2,4]<|.drop<|.solo 5<|.nil (some 4)),
  ((96,[1,1,0,1,0,0,0,0,0,0,0,1,0,1,0,1,0,0]),cT [0,1,2,3,4,5,6,10,12]<|.take 7 492288<|.take 8 0<|.take 11 458752<|.take 13 491520<|.take 14 491520<|cS [9,15,16]<|.drop<|cS [17,18]<|.nil (some 16)),
  ((96,[1,1,0,1,0,0,0,0,0,0,0,1,0,1,1,0]),cT [0,1,2,6,7,8]<|.take 3 14336<|.take 4 14336<|.take 5 15360<|cS [9,10,11]<|.drop<|cS [12,13]<|.nil (some 11)),
  ((96,[1,1,0,1,0,0,0,0,0,1,0,1,0]),cT [0,1,2,6,7,8]<|.take 3 14336<|.take 4 14336<|.take 5 15360<|cS [9,10,11]<|.drop<|cS [12,13]<|.nil (some 11)),
  ((96,[1,1,0,1,0,1,0,0,0]),cT [0,1,2]<|.take 3 3552<|.take 4 3552<|.alt 5 (cT [6,7,8]<|cS [9,10,11]<|.nil none) 9 (cS [5,6]<|cT [7,8]<|cS [10,11]<|.nil none)),
  ((96,[1,1,0,1,0,1,0,1,0,0]),cT [0,1,2,5,6,7]<|.take 3 1552<|.take 8 1536<|cS [4,9]<|.drop<|.solo 10<|.nil (some 9)),
  ((97,[1,0,1,0,0,0,0,0,0,0,0,0,0,0,0,0,0,0,1,0,1,1,0]),cT [0,1,2,3,5,6,7,8]<|.take 9 15360<|cS [4,10]<|.drop<|cS [11,12,13]<|.nil (some 10)),
  ((97,[1,0,1,0,0,0,0,0,0,0,0,0,0,0,0,0,1,0,0]),cT [0,1,2,3,5,6,7,8]<|.take 9 15360<|cS [4,10]<|.drop<|cS [11,12,13]<|.nil (some 10)),
  ((97,[1,0,1,0,0,0,0,0,0,0,0,0,0,0,1,0,0]),cT [0,1,2,3,5,6,7,8]<|.take 9 15360<|cS [4,10]<|.drop<|cS [11,12,13]<|.nil (some 10)),
  ((97,[1,0,1,0,0,0,1,0,0]),cT [0,1,2]<|.take 3 3552<|.take 4 3552<|.alt 5 (cT [6,7,8]<|cS [9,10,11]<|.nil none) 9 (cS [5,6]<|cT [7,8]<|cS [10,11]<|.nil none)),
  ((97,[1,0,1,0,0,0,1,1,0,1,0,0]),cT [0,1,2]<|cS [3,4,5,6,7,8,9]<|.nil none),
  ((97,[1,0,1,0,1,0,1,0,0]),cT [0,1,2,4,5,6,7]<|.take 3 512<|cS [8,9]<|.nil none),
  ((97,[1,0,1,0,1,0,1,0,1,0,0]),cT [0,1,2,4,5,6]<|.take 3 52992<|.take 7 52992<|.sU 8 (cT [9,10,11]<|.alt 12 (cS [13,14,15]<|.nil none) 13 (cS [12,14,15]<|.nil none)) 12 (.alt 8 (cT [9,10,11]<|cS [13,14,15]<|.nil none) 13 (cS [8,9]<|cT [10,11]<|cS [14,15]<|.nil none)) 13 (.alt 8 (cT [9,10,11]<|cS [12,14,15]<|.nil none) 12 (cS [8,9]<|cT [10,11]<|cS [14,15]<|.nil none))),
  ((97,[1,0,1,0,1,0,1,0,1,0,1,0]),cT [0,1,2,3,4,5,6]<|.take 7 31488<|.take 8 0<|.take 10 30720<|cS [9,11]<|.drop<|cS [12,13,14]<|.nil (some 11)),
  ((97,[1,0,1,0,1,0,1,1,1,0]),cT [0,1,2,6,7,8]<|.take 3 14336<|.take 4 14336<|.take 5 15360<|cS [9,10,11]<|.drop<|cS [12,13]<|.nil (some 11)),
  ((98,[1,0,1,0,0,0,0,0,0,0,0,0,0,0,1,0,0,0]),cT [0,1,2]<|.take 3 3552<|.take 4 3552<|.alt 5 (cT [6,7,8]<|cS [9,10,11]<|.nil none) 9 (cS [5,6]<|cT [7,8]<|cS [10,11]<|.nil none)),
  ((98,[1,0,1,0,0,0,0,0,0,0,0,0,0,0,1,0,1,1,1,0]),cT [0,1,2]<|cS [3,4,5,6,7]<|.nil none),
  ((98,[1,0,1,0,0,0,0,0,0,0,0,0,1,0,1,1,1,0]),cT [0,1,2]<|cS [3,4,5,6,7]<|.nil none),
  ((98,[1,0,1,0,0,0,0,0,1,0,0,1,0,0]),cT [0,1,2,3,4,5,6,10,12]<|.take 7 246528<|.take 8 0<|.take 11 229376<|.take 13 245760<|cS [9,14,15]<|.drop<|cS [16,17]<|.nil (some 15)),
  ((98,[1,0,1,0,1,0,0,0]),cT [0,1,2]<|.take 3 3552<|.take 4 3552<|.alt 5 (cT [6,7,8]<|cS [9,10,11]<|.nil none) 9 (cS [5,6]<|cT [7,8]<|cS [10,11]<|.nil none)),
  ((99,[1,0,1,0,0,0,1,0,0,0]),cT [0,1,2]<|.take 3 3552<|.take 4 3552<|.alt 5 (cT [6,7,8]<|cS [9,10,11]<|.nil none) 9 (cS [5,6]<|cT [7,8]<|cS [10,11]<|.nil none)),
  ((99,[1,0,1,0,0,0,1,0,1,1,1,0]),cT [0,1,2]<|cS [3,4,5,6,7]<|.nil none),
  ((99,[1,0,1,0,1,0,0]),cT [0,1,2]<|cS [3,4,5,6,7]<|.nil none),
  ((109,[1,0]),cT [0,1,3,4]<|cS [2,5,6]<|.nil none),
  ((115,[]),cT [0,1,2,3,5,6,7,8,9,12,13]<|.take 4 983040<|cS [10,11,14,15,16]<|.drop<|cS [17,18,19]<|.nil (some 16)),
  ((116,[]),cT [0,1,3,4,5,6,8,9,10,11]<|.take 7 49152<|.take 12 57344<|cS [2,13,14,15]<|.drop<|.nil (some 15)),
  ((117,[0]),cT [0,1,2,5,6,7]<|.take 3 528<|.take 4 0<|cS [8,9]<|.nil none),
  ((119,[0,1,0,1,0]),cT [0,1,2,3,5,6,7,8]<|.take 4 261120<|cS [9,10]<|.drop<|.solo 11<|cT [12,13]<|cS [14,15,16,17]<|.nil (some 10)),
  ((119,[0,1,0,1,1,1,1,1,0]),cT [0,1,2,3,5]<|.take 4 32640<|cS [6,7]<|.drop<|.solo 8<|cT [9,10]<|cS [11,12,13,14]<|.nil (some 7)),
  ((119,[0,1,0,1,1,1,1,1,1,1,0]),cT [0,1,2,3,5,6,7,8,9]<|.take 4 522240<|cS [10,11]<|.drop<|.solo 12<|cT [13,14]<|cS [15,16,17,18]<|.nil (some 11)),
  ((122,[1,0,1,0,0,1,1,0,0,1,0]),cT [1,2,3]<|.take 0 32<|cS [4,5]<|.nil none),
  ((123,[1,1,1,1,0]),cT [0,1,2,3]<|cS [4,5,6,7]<|.nil none),
  ((136,[1,1,0]),cT [0,1,2]<|cS [3,4,5,6,7]<|.nil none),
  ((137,[1,0,0]),cT [0,1,2,4,5,6,7]<|.take 3 512<|cS [8,9]<|.nil none),
  ((137,[1,1,0]),cT [0,1,2,3]<|cS [4,5,6,7,8,9,10,11,12]<|.nil none),
  ((139,[1,0]),cT [0,1,2,3]<|cS [4,5,6,7,8,9,10,11,12]<|.nil none)]
theorem aO:jX tab sched (UD tab sched)=true:=Jg (by kernel_rfl)
end Go.Proofs.YthomdlajobnmnaaGreatDoor
set_option linter.unusedSimpArgs false
set_option linter.unusedVariables false
namespace Go.Rex
structure cK (w0:World) (W:Nat->Prop) (w:World):Prop where
 os:w.os=w0.os
 tape:w.tape=w0.tape
 output:w.output=w0.output
 size:w0.heap.size<=w.heap.size
 block:∀k,k<w0.heap.size->¬W k->w.heap[k]?=w0.heap[k]?
theorem cK.refl (w:World) (W:Nat->Prop):cK w W w:=⟨rfl,rfl,rfl,Nat.le_refl _,λ_ _ _=>rfl⟩
theorem cK.step {a w w':World} {W:Nat->Prop} (h:cK a W w) (f:w'.os=w.os) (d:w'.tape=w.tape) (i:w'.output=w.output) (e:w.heap.size<=w'.heap.size)
  (g:∀k,k<a.heap.size->¬W k->w'.heap[k]?=w.heap[k]?):cK a W w' :=
 ⟨f.trans h.os,d.trans h.tape,i.trans h.output,Nat.le_trans h.size e,λk b c=>(g k b c).trans (h.block k b c)⟩
def mJ (z:Nat) (W:Nat->Prop) (ρ:Env) (ν:Nat->Addr) (a:List SB):Prop :=
 ∀(k:Nat) (sb:SB),a[k]?=some sb->sb.own=true->sb.dead ρ=false->z<=(ν k).block\/W (ν k).block
def jB (ρ:Env) (ν:Nat->Addr) (a:List SB) (b:Nat):Prop:=∃(k:Nat) (sb:SB),a[k]?=some sb/\sb.own=true/\sb.dead ρ=false/\b=(ν k).block
structure aK (P:Program) (k:dJ) (pre post:Env->Prop):Prop where
 fn:∃fn,P.funcs[k.f]?=some fn/\fn.body.isSome=true/\(fn.name == "runtime.NumGoroutine")=false
 run:∀ρ ν w,aD ρ ν k.hp w->iU ν k.gl->pre ρ.num->Calls P k.f (k.args.map (·.den ρ ν)).toArray w λe w' =>
  ∃ρ' aI,bY k.nv k.hp.length ρ ρ' ν aI/\e=.returned (k.ret.den ρ' aI)/\aD ρ' aI k.hp' w'/\cK w (jB ρ ν k.hp) w'/\mJ w.heap.size (jB ρ ν k.hp) ρ' aI k.hp'/\post ρ'.num
def Dq:List SB->List SB->Bool
 | [],_=>true
 | T :: r,[]=>!T.own && Dq r []
 | T :: r,U :: s=>(!T.own || U.gone || (!T.ro && !U.ro && T.nl.same U.nl)) && Dq r s
def Jh:List SB->Bool
 | []=>true
 | T :: r=>(T.gone || (T.own && !T.ro)) && Jh r
def kX (k:dJ):Bool:=Nat.ble k.nv k.iV && Nat.ble k.hp.length k.hp'.length && sP k.nv k.hp.length k.hp && Dq k.hp k.hp' && Jh (k.hp'.drop k.hp.length)
structure AY where
 w:World
 W:Nat->Prop
 ρ:Env
 ν:Nat->Addr
 nv:Nat
 n:Nat
structure qX (T:bf) (ρ:Env) (ν:Nat->Addr) (F:aZ) (a:Act) (S:World->Prop):Prop where
 fr:qI ρ ν F.fr a
 tmps:T.ntmps F.f<=a.tmps.size
 defers:a.defers=[]
 held:∀p k sc d,F.cur=.dr p k sc d->∀w,S w↔aD ρ ν sc w
abbrev AS:=Act × (World->Prop)
def Dr (T:bf) (ρ:Env) (ν:Nat->Addr):List (aZ × Nat)->List AS->Prop
 | [],[]=>True
 | x :: r,y :: s=>qX T ρ ν x.1 y.1 y.2/\Dr T ρ ν r s
 | _,_=>False
structure Rel (T:bf) (B:AY) (ρ:Env) (ν:Nat->Addr) (c:dh) (a:AS) (aS0:List AS) (w:World):Prop where
 nv:B.nv<=c.nv
 n:B.n<=c.hp.length
 gZ:bY B.nv B.n B.ρ ρ B.ν ν
 kn:Kn.ok ρ c.kn
 gl:iU ν c.gl
 hp:aD ρ ν c.hp w
 wr:cK B.w B.W w
 own:mJ B.w.heap.size B.W ρ ν c.hp
 top:qX T ρ ν c.top a.1 a.2
 dH:Dr T ρ ν c.dH aS0
 held:∀p k sc,c.top.cur=.dr p k sc false->fZ sc c.hp=true
theorem mJ.ext {z:Nat} {W:Nat->Prop} {nv n:Nat} {ρ ρ':Env} {ν c:Nat->Addr} {a:List SB} (h:mJ z W ρ ν a) (d:bY nv n ρ ρ' ν c) (g:sP nv n a=true) (f:a.length<=n):mJ z W ρ' c a:=by
 intro k sb b e hd
 rw [d.bl k (Nat.lt_of_lt_of_le (List.getElem?_eq_some_iff.1 b).1 f)]
 exact h k sb b e (by rwa [SB.pG d (jR g k sb b)] at hd)
theorem qX.ext {T:bf} {nv n:Nat} {ρ ρ':Env} {ν e:Nat->Addr} (f:bY nv n ρ ρ' ν e) {F:aZ} {a:Act} {S:World->Prop} (c:F.sc nv n=true) (h:qX T ρ ν F a S) :
  qX T ρ' e F a S:=by
 simp only [aZ.sc,Bool.and_eq_true] at c
 refine ⟨qI.ext f c.1 h.fr,h.tmps,h.defers,λp k sc d g w=>?_⟩
 have b:=c.2
 rw [g] at b
 simp only [Bool.and_eq_true,Nat.ble_eq] at b
 rw [h.held p k sc d g w]
 exact aD.ext_iff f b.1 b.2
theorem Dr.ext {T:bf} {nv n:Nat} {ρ ρ':Env} {ν b:Nat->Addr} (c:bY nv n ρ ρ' ν b):∀{st:List (aZ × Nat)} {aS0:List AS},xG nv n st=true->Dr T ρ ν st aS0->Dr T ρ' b st aS0
 | [],[],_,_=>trivial
 | [],_ :: _,_,h=>h
 | _ :: _,[],_,h=>h
 | x :: r,y :: s,a,h=>by
  simp only [xG,Bool.and_eq_true] at a
  exact ⟨qX.ext c a.1 h.1,Dr.ext c a.2 h.2⟩
theorem iU.ext {nv n:Nat} {ρ ρ':Env} {ν c:Nat->Addr} (p:bY nv n ρ ρ' ν c) {a:List (Nat × Nat)} (e:Dg n a=true) (h:iU ν a):iU c a:=by
 have lt:∀g k,assoc g a=some k->k<n:=by
  intro g k b
  have f:=kE b
  clear h b
  induction a with
  | nil=>cases f
  | cons x r t =>
   simp only [Dg,Bool.and_eq_true,Nat.blt_eq] at e
   all_goals grind
 refine ⟨λg k j b=>?_,λg o k q m i s l d=>?_⟩
 all_goals grind [bY.bl,iU.at_,iU.ne]
theorem Rel.ext {T:bf} {B:AY} {ρ ρ':Env} {ν e:Nat->Addr} {c:dh} {a:AS} {aS0:List AS} {w:World} (h:Rel T B ρ ν c a aS0 w) (f:c.sc=true)
  (b:bY c.nv c.hp.length ρ ρ' ν e):Rel T B ρ' e c a aS0 w:=by
 simp only [dh.sc,Bool.and_eq_true] at f
 obtain ⟨⟨⟨⟨i,d⟩,k⟩,g⟩,j⟩:=f
 exact ⟨h.nv,h.n,h.gZ.trans b h.nv h.n,II b i h.kn,h.gl.ext b j,aD.ext b d (Nat.le_refl _) h.hp,h.wr,h.own.ext b d (Nat.le_refl _),h.top.ext b k,h.dH.ext b g,h.held⟩
def wL (P:Program) (ops:Array Oper) (Q:Exit->Act->World->Prop) (S:World->Prop):dC->Array Bool->Act->World->Prop
 | .go i k,listed,a,w=>wpOp P ops Q i (λc b=>(asked k.iA (listed.setIfInBounds i true)->S b)/\jm P .any ops Q S k.iA k.size (listed.setIfInBounds i true) c b) a w
 | .two i e j d,listed,a,w=>wpOp P ops Q i (λc b=>(asked e.iA (listed.setIfInBounds i true)->S b)/\jm P .any ops Q S e.iA e.size (listed.setIfInBounds i true) c b) a w /\
   wpOp P ops Q j (λc b=>(asked d.iA (listed.setIfInBounds j true)->S b)/\jm P .any ops Q S d.iA d.size (listed.setIfInBounds j true) c b) a w
 | s,listed,a,w=>jm P .any ops Q S s.iA s.size listed a w
theorem oM {P:Program} {ops:Array Oper} {Q:Exit->Act->World->Prop} {S:World->Prop} {s:dC} (h:s.jk=false) {listed:Array Bool} {a:Act} {w:World} :
  wL P ops Q S s listed a w↔jm P .any ops Q S s.iA s.size listed a w:=by
 cases s <;> first | exact Iff.rfl | (cases h)
def dV (P:Program) (T:bf) (R:Ending->World->Prop) (F:aZ) (a:AS) (w:World):Prop :=
 let k:=F.todo.map (SI.j6 (T.body F.f))
 match F.cur with
 | .none=>Reach P F.f R a.1 k w
 | .reg p i=>wpOps P (T.ops F.f p) (lZ P F.f R k) (List.range' i ((T.ops F.f p).size-i)) a.1 w
 | .dr p s _ _=>(s.De=false->a.2 w)/\∀listed:Array Bool,Region.noSelect (T.ops F.f p)=true->ou (T.ops F.f p) listed s->wL P (T.ops F.f p) (lZ P F.f R k) a.2 s listed a.1 w
def RK (P:Program) (T:bf) (R:Ending->World->Prop):List (aZ × Nat)->List AS->Ending->World->Prop
 | [],_,e,w=>R e w
 | (G,i) :: st,a :: b,e,w=>∃v,e=.returned v/\dV P T (RK P T R st b) (G.eB i) (a.1.put (((T.ops G.f G.Dj)[i]?).bind (·.dst)) v,a.2) w
 | _ :: _,[],_,_=>False
def Goal (P:Program) (T:bf) (R:Ending->World->Prop) (c:dh) (a:AS) (aS0:List AS) (w:World):Prop :=
 dV P T (RK P T R c.dH aS0) c.top a w
def aV (σ:Sub) (m d:Nat) (ρ ρ':Env):Env where
 iv:=λi=>if i<m then (σ.bT ρ).iv i else ρ'.iv (i-m+d)
 bv:=λi=>if i<m then (σ.bT ρ).bv i else ρ'.bv (i-m+d)
 ic:=λi=>if i<m then (σ.bT ρ).ic i else ρ'.ic (i-m+d)
 bc:=λi=>if i<m then (σ.bT ρ).bc i else ρ'.bc (i-m+d)
def Sat (post:Env->Prop) (cs:List (dJ × (Env->Prop) × (Env->Prop))):List (Env->Prop)->Env->Out->Prop
 | _,d,.fin n=>post (n.bT d)
 | _,_,.stop _=>False
 | h,d,.br c t e=>(c.den d=true->Sat post cs h d t)/\(c.den d=false->Sat post cs h d e)
 | h,d,.ob b k=>b.den d=true/\(b.den d=true->Sat post cs h d k)
 | h,d,.alt a b=>Sat post cs h d a/\Sat post cs h d b
 | h,d,.new l p k=>∀e:Env,(∀f∈p,f.den (d.join l e))->Sat post cs h (d.join l e) k
 | h,d,.loop l n k=>∃(Inv:Env->Prop) (m:Env->Nat),Inv (n.bT d)/\∀e:Env,Inv (d.join l e).num->Sat post cs ((λo=>Inv o/\m o<m (d.join l e).num) :: h) (d.join l e) k
 | h,d,.back i n=>∃G,h[i]?=some G/\G (n.bT d)
 | h,d,.call g n l k=>∃c pre j,cs[g]?=some (c,pre,j)/\pre (n.bT d)/\∀e:Env,j (aV n c.nv l d (d.join l e))->Sat post cs h (d.join l e) k
 | _,_,.bad _=>False
end Go.Rex
