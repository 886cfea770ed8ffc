/- The table of the types, printed by program. Where each function lies in the program, printed by program; no condition. -/
import Derived.Test.YtkaakbpeegpnkaaGreatDoorProg
import Derived.Test.YtkaakbpeegpnkaaGreatDoorP7
set_option maxRecDepth 100000
set_option maxHeartbeats 4000000
namespace Go.Proofs.YtkaakbpeegpnkaaGreatDoor
open Go Go.SX
def ti3:TI:={ row:=false,size:=1,zero:=#[.int .i64 0],kind:=4,ik:=.i64 }
def ti4:TI:={ row:=false,size:=1,zero:=#[.bool false],kind:=5 }
def ti5:TI:={ row:=false,size:=1,zero:=#[.int .u8 0],kind:=4,ik:=.u8 }
def ti7:TI:={ row:=true,size:=4,zero:=#[.int .i64 0,.int .i64 0,.bool false,.int .u8 0],kind:=1,fields:=[(0,2),(1,3),(2,4),(3,6)] }
def ti8:TI:={ row:=true,size:=4,zero:=#[.int .i64 0,.int .i64 0,.bool false,.int .u8 0],kind:=1,fields:=[(0,2),(1,3),(2,4),(3,6)] }
def ti9:TI:={ row:=false,size:=1,zero:=#[.string ByteArray.empty],kind:=0 }
def ti13:TI:={ row:=true,size:=2,zero:=#[.string ByteArray.empty,.int .u64 0],kind:=1,fields:=[(0,9),(1,12)] }
def ti14:TI:={ row:=true,size:=2,zero:=#[.string ByteArray.empty,.int .u64 0],kind:=1,fields:=[(0,9),(1,12)] }
def ti18:TI:={ row:=true,size:=1,zero:=#[.pointer none],kind:=1,fields:=[(0,17)] }
def ti19:TI:={ row:=true,size:=1,zero:=#[.pointer none],kind:=1,fields:=[(0,17)] }
def ti28:TI:={ row:=false,size:=1,zero:=#[.slice none 0 0],kind:=3,elem:=85 }
def ti29:TI:={ row:=true,size:=3,zero:=#[.slice none 0 0,.slice none 0 0,.slice none 0 0],kind:=1,fields:=[(0,27),(1,28),(2,28)] }
def ti30:TI:={ row:=true,size:=3,zero:=#[.slice none 0 0,.slice none 0 0,.slice none 0 0],kind:=1,fields:=[(0,27),(1,28),(2,28)] }
def ti46:TI:={ row:=true,size:=10,zero:=#[.int .i64 0,.string ByteArray.empty,.int .i64 0,.int .i64 0,.string ByteArray.empty,.int .i64 0,.int .i64 0,.string ByteArray.empty,.int .i64 0,.bool false],kind:=1,fields:=[(0,3),(1,9),(2,3),(3,3),(4,9),(5,3),(6,3),(7,9),(8,3),(9,4)] }
def ti47:TI:={ row:=true,size:=10,zero:=#[.int .i64 0,.string ByteArray.empty,.int .i64 0,.int .i64 0,.string ByteArray.empty,.int .i64 0,.int .i64 0,.string ByteArray.empty,.int .i64 0,.bool false],kind:=1,fields:=[(0,3),(1,9),(2,3),(3,3),(4,9),(5,3),(6,3),(7,9),(8,3),(9,4)] }
def ti54:TI:={ row:=false,size:=1,zero:=#[.int .u32 0],kind:=4,ik:=.u32 }
def ti55:TI:={ row:=true,size:=32,zero:=(Array.replicate 32 (.int .u32 0)),kind:=2,len:=32,elem:=54 }
def ti56:TI:={ row:=true,size:=33,zero:=#[.bool false,.int .u32 0,.int .u32 0,.int .u32 0,.int .u32 0,.int .u32 0,.int .u32 0,.int .u32 0,.int .u32 0,.int .u32 0,.int .u32 0,.int .u32 0,.int .u32 0,.int .u32 0,.int .u32 0,.int .u32 0,.int .u32 0,.int .u32 0,.int .u32 0,.int .u32 0,.int .u32 0,.int .u32 0,.int .u32 0,.int .u32 0,.int .u32 0,.int .u32 0,.int .u32 0,.int .u32 0,.int .u32 0,.int .u32 0,.int .u32 0,.int .u32 0,.int .u32 0],kind:=1,fields:=[(0,4),(1,55)] }
def ti57:TI:={ row:=true,size:=33,zero:=#[.bool false,.int .u32 0,.int .u32 0,.int .u32 0,.int .u32 0,.int .u32 0,.int .u32 0,.int .u32 0,.int .u32 0,.int .u32 0,.int .u32 0,.int .u32 0,.int .u32 0,.int .u32 0,.int .u32 0,.int .u32 0,.int .u32 0,.int .u32 0,.int .u32 0,.int .u32 0,.int .u32 0,.int .u32 0,.int .u32 0,.int .u32 0,.int .u32 0,.int .u32 0,.int .u32 0,.int .u32 0,.int .u32 0,.int .u32 0,.int .u32 0,.int .u32 0,.int .u32 0],kind:=1,fields:=[(0,4),(1,55)] }
def ti58:TI:={ row:=true,size:=66,zero:=#[.bool false,.int .u32 0,.int .u32 0,.int .u32 0,.int .u32 0,.int .u32 0,.int .u32 0,.int .u32 0,.int .u32 0,.int .u32 0,.int .u32 0,.int .u32 0,.int .u32 0,.int .u32 0,.int .u32 0,.int .u32 0,.int .u32 0,.int .u32 0,.int .u32 0,.int .u32 0,.int .u32 0,.int .u32 0,.int .u32 0,.int .u32 0,.int .u32 0,.int .u32 0,.int .u32 0,.int .u32 0,.int .u32 0,.int .u32 0,.int .u32 0,.int .u32 0,.int .u32 0,.bool false,.int .u32 0,.int .u32 0,.int .u32 0,.int .u32 0,.int .u32 0,.int .u32 0,.int .u32 0,.int .u32 0,.int .u32 0,.int .u32 0,.int .u32 0,.int .u32 0,.int .u32 0,.int .u32 0,.int .u32 0,.int .u32 0,.int .u32 0,.int .u32 0,.int .u32 0,.int .u32 0,.int .u32 0,.int .u32 0,.int .u32 0,.int .u32 0,.int .u32 0,.int .u32 0,.int .u32 0,.int .u32 0,.int .u32 0,.int .u32 0,.int .u32 0,.int .u32 0],kind:=1,fields:=[(0,57),(33,57)] }
def ti59:TI:={ row:=true,size:=66,zero:=#[.bool false,.int .u32 0,.int .u32 0,.int .u32 0,.int .u32 0,.int .u32 0,.int .u32 0,.int .u32 0,.int .u32 0,.int .u32 0,.int .u32 0,.int .u32 0,.int .u32 0,.int .u32 0,.int .u32 0,.int .u32 0,.int .u32 0,.int .u32 0,.int .u32 0,.int .u32 0,.int .u32 0,.int .u32 0,.int .u32 0,.int .u32 0,.int .u32 0,.int .u32 0,.int .u32 0,.int .u32 0,.int .u32 0,.int .u32 0,.int .u32 0,.int .u32 0,.int .u32 0,.bool false,.int .u32 0,.int .u32 0,.int .u32 0,.int .u32 0,.int .u32 0,.int .u32 0,.int .u32 0,.int .u32 0,.int .u32 0,.int .u32 0,.int .u32 0,.int .u32 0,.int .u32 0,.int .u32 0,.int .u32 0,.int .u32 0,.int .u32 0,.int .u32 0,.int .u32 0,.int .u32 0,.int .u32 0,.int .u32 0,.int .u32 0,.int .u32 0,.int .u32 0,.int .u32 0,.int .u32 0,.int .u32 0,.int .u32 0,.int .u32 0,.int .u32 0,.int .u32 0],kind:=1,fields:=[(0,57),(33,57)] }
def ti60:TI:={ row:=true,size:=76,zero:=#[.int .i64 0,.string ByteArray.empty,.string ByteArray.empty,.string ByteArray.empty,.int .i64 0,.int .i64 0,.int .i64 0,.bool false,.int .u32 0,.int .u32 0,.int .u32 0,.int .u32 0,.int .u32 0,.int .u32 0,.int .u32 0,.int .u32 0,.int .u32 0,.int .u32 0,.int .u32 0,.int .u32 0,.int .u32 0,.int .u32 0,.int .u32 0,.int .u32 0,.int .u32 0,.int .u32 0,.int .u32 0,.int .u32 0,.int .u32 0,.int .u32 0,.int .u32 0,.int .u32 0,.int .u32 0,.int .u32 0,.int .u32 0,.int .u32 0,.int .u32 0,.int .u32 0,.int .u32 0,.int .u32 0,.bool false,.int .u32 0,.int .u32 0,.int .u32 0,.int .u32 0,.int .u32 0,.int .u32 0,.int .u32 0,.int .u32 0,.int .u32 0,.int .u32 0,.int .u32 0,.int .u32 0,.int .u32 0,.int .u32 0,.int .u32 0,.int .u32 0,.int .u32 0,.int .u32 0,.int .u32 0,.int .u32 0,.int .u32 0,.int .u32 0,.int .u32 0,.int .u32 0,.int .u32 0,.int .u32 0,.int .u32 0,.int .u32 0,.int .u32 0,.int .u32 0,.int .u32 0,.int .u32 0,.string ByteArray.empty,.int .i64 0,.bool false],kind:=1,fields:=[(0,3),(1,9),(2,9),(3,9),(4,3),(5,3),(6,3),(7,59),(73,9),(74,3),(75,4)] }
def ti61:TI:={ row:=true,size:=76,zero:=#[.int .i64 0,.string ByteArray.empty,.string ByteArray.empty,.string ByteArray.empty,.int .i64 0,.int .i64 0,.int .i64 0,.bool false,.int .u32 0,.int .u32 0,.int .u32 0,.int .u32 0,.int .u32 0,.int .u32 0,.int .u32 0,.int .u32 0,.int .u32 0,.int .u32 0,.int .u32 0,.int .u32 0,.int .u32 0,.int .u32 0,.int .u32 0,.int .u32 0,.int .u32 0,.int .u32 0,.int .u32 0,.int .u32 0,.int .u32 0,.int .u32 0,.int .u32 0,.int .u32 0,.int .u32 0,.int .u32 0,.int .u32 0,.int .u32 0,.int .u32 0,.int .u32 0,.int .u32 0,.int .u32 0,.bool false,.int .u32 0,.int .u32 0,.int .u32 0,.int .u32 0,.int .u32 0,.int .u32 0,.int .u32 0,.int .u32 0,.int .u32 0,.int .u32 0,.int .u32 0,.int .u32 0,.int .u32 0,.int .u32 0,.int .u32 0,.int .u32 0,.int .u32 0,.int .u32 0,.int .u32 0,.int .u32 0,.int .u32 0,.int .u32 0,.int .u32 0,.int .u32 0,.int .u32 0,.int .u32 0,.int .u32 0,.int .u32 0,.int .u32 0,.int .u32 0,.int .u32 0,.int .u32 0,.string ByteArray.empty,.int .i64 0,.bool false],kind:=1,fields:=[(0,3),(1,9),(2,9),(3,9),(4,3),(5,3),(6,3),(7,59),(73,9),(74,3),(75,4)] }
def ti64:TI:={ row:=false,size:=1,zero:=#[.nilFunc],kind:=0 }
def ti65:TI:={ row:=false,size:=1,zero:=#[.slice none 0 0],kind:=3,elem:=120 }
def ti66:TI:={ row:=true,size:=2,zero:=#[.nilFunc,.slice none 0 0],kind:=1,fields:=[(0,64),(1,65)] }
def ti67:TI:={ row:=true,size:=2,zero:=#[.nilFunc,.slice none 0 0],kind:=1,fields:=[(0,64),(1,65)] }
def ti68:TI:={ row:=false,size:=1,zero:=#[.nilFunc],kind:=0 }
def ti69:TI:={ row:=false,size:=1,zero:=#[.slice none 0 0],kind:=3,elem:=163 }
def ti70:TI:={ row:=true,size:=2,zero:=#[.nilFunc,.slice none 0 0],kind:=1,fields:=[(0,68),(1,69)] }
def ti71:TI:={ row:=true,size:=2,zero:=#[.nilFunc,.slice none 0 0],kind:=1,fields:=[(0,68),(1,69)] }
def ti72:TI:={ row:=true,size:=7,zero:=#[.nilFunc,.slice none 0 0,.nilFunc,.slice none 0 0,.nilFunc,.slice none 0 0,.int .i64 0],kind:=1,fields:=[(0,67),(2,71),(4,71),(6,3)] }
def ti73:TI:={ row:=true,size:=7,zero:=#[.nilFunc,.slice none 0 0,.nilFunc,.slice none 0 0,.nilFunc,.slice none 0 0,.int .i64 0],kind:=1,fields:=[(0,67),(2,71),(4,71),(6,3)] }
def ti84:TI:={ row:=true,size:=3,zero:=#[.string ByteArray.empty,.int .i64 0,.int .i64 0],kind:=1,fields:=[(0,9),(1,3),(2,3)] }
def ti85:TI:={ row:=true,size:=3,zero:=#[.string ByteArray.empty,.int .i64 0,.int .i64 0],kind:=1,fields:=[(0,9),(1,3),(2,3)] }
def ti89:TI:={ row:=true,size:=2,zero:=#[.string ByteArray.empty,.int .i64 0],kind:=1,fields:=[(0,9),(1,3)] }
def ti90:TI:={ row:=true,size:=2,zero:=#[.string ByteArray.empty,.int .i64 0],kind:=1,fields:=[(0,9),(1,3)] }
def ti94:TI:={ row:=true,size:=2,zero:=#[.string ByteArray.empty,.int .i64 0],kind:=1,fields:=[(0,9),(1,3)] }
def ti95:TI:={ row:=true,size:=2,zero:=#[.string ByteArray.empty,.int .i64 0],kind:=1,fields:=[(0,9),(1,3)] }
def ti102:TI:={ row:=true,size:=3,zero:=#[.string ByteArray.empty,.int .i64 0,.bool false],kind:=1,fields:=[(0,9),(1,3),(2,4)] }
def ti103:TI:={ row:=true,size:=3,zero:=#[.string ByteArray.empty,.int .i64 0,.bool false],kind:=1,fields:=[(0,9),(1,3),(2,4)] }
def ti112:TI:={ row:=true,size:=3,zero:=#[.string ByteArray.empty,.int .i64 0,.int .i64 0],kind:=1,fields:=[(0,9),(1,3),(2,3)] }
def ti113:TI:={ row:=true,size:=3,zero:=#[.string ByteArray.empty,.int .i64 0,.int .i64 0],kind:=1,fields:=[(0,9),(1,3),(2,3)] }
def ti119:TI:={ row:=true,size:=2,zero:=#[.string ByteArray.empty,.int .i64 0],kind:=1,fields:=[(0,9),(1,3)] }
def ti120:TI:={ row:=true,size:=2,zero:=#[.string ByteArray.empty,.int .i64 0],kind:=1,fields:=[(0,9),(1,3)] }
def ti137:TI:={ row:=true,size:=76,zero:=#[.int .i64 0,.string ByteArray.empty,.string ByteArray.empty,.string ByteArray.empty,.int .i64 0,.int .i64 0,.int .i64 0,.bool false,.int .u32 0,.int .u32 0,.int .u32 0,.int .u32 0,.int .u32 0,.int .u32 0,.int .u32 0,.int .u32 0,.int .u32 0,.int .u32 0,.int .u32 0,.int .u32 0,.int .u32 0,.int .u32 0,.int .u32 0,.int .u32 0,.int .u32 0,.int .u32 0,.int .u32 0,.int .u32 0,.int .u32 0,.int .u32 0,.int .u32 0,.int .u32 0,.int .u32 0,.int .u32 0,.int .u32 0,.int .u32 0,.int .u32 0,.int .u32 0,.int .u32 0,.int .u32 0,.bool false,.int .u32 0,.int .u32 0,.int .u32 0,.int .u32 0,.int .u32 0,.int .u32 0,.int .u32 0,.int .u32 0,.int .u32 0,.int .u32 0,.int .u32 0,.int .u32 0,.int .u32 0,.int .u32 0,.int .u32 0,.int .u32 0,.int .u32 0,.int .u32 0,.int .u32 0,.int .u32 0,.int .u32 0,.int .u32 0,.int .u32 0,.int .u32 0,.int .u32 0,.int .u32 0,.int .u32 0,.int .u32 0,.int .u32 0,.int .u32 0,.int .u32 0,.int .u32 0,.string ByteArray.empty,.int .i64 0,.bool false],kind:=1,fields:=[(0,61)] }
def ti138:TI:={ row:=true,size:=76,zero:=#[.int .i64 0,.string ByteArray.empty,.string ByteArray.empty,.string ByteArray.empty,.int .i64 0,.int .i64 0,.int .i64 0,.bool false,.int .u32 0,.int .u32 0,.int .u32 0,.int .u32 0,.int .u32 0,.int .u32 0,.int .u32 0,.int .u32 0,.int .u32 0,.int .u32 0,.int .u32 0,.int .u32 0,.int .u32 0,.int .u32 0,.int .u32 0,.int .u32 0,.int .u32 0,.int .u32 0,.int .u32 0,.int .u32 0,.int .u32 0,.int .u32 0,.int .u32 0,.int .u32 0,.int .u32 0,.int .u32 0,.int .u32 0,.int .u32 0,.int .u32 0,.int .u32 0,.int .u32 0,.int .u32 0,.bool false,.int .u32 0,.int .u32 0,.int .u32 0,.int .u32 0,.int .u32 0,.int .u32 0,.int .u32 0,.int .u32 0,.int .u32 0,.int .u32 0,.int .u32 0,.int .u32 0,.int .u32 0,.int .u32 0,.int .u32 0,.int .u32 0,.int .u32 0,.int .u32 0,.int .u32 0,.int .u32 0,.int .u32 0,.int .u32 0,.int .u32 0,.int .u32 0,.int .u32 0,.int .u32 0,.int .u32 0,.int .u32 0,.int .u32 0,.int .u32 0,.int .u32 0,.int .u32 0,.string ByteArray.empty,.int .i64 0,.bool false],kind:=1,fields:=[(0,61)] }
def ti146:TI:={ row:=true,size:=76,zero:=#[.int .i64 0,.string ByteArray.empty,.string ByteArray.empty,.string ByteArray.empty,.int .i64 0,.int .i64 0,.int .i64 0,.bool false,.int .u32 0,.int .u32 0,.int .u32 0,.int .u32 0,.int .u32 0,.int .u32 0,.int .u32 0,.int .u32 0,.int .u32 0,.int .u32 0,.int .u32 0,.int .u32 0,.int .u32 0,.int .u32 0,.int .u32 0,.int .u32 0,.int .u32 0,.int .u32 0,.int .u32 0,.int .u32 0,.int .u32 0,.int .u32 0,.int .u32 0,.int .u32 0,.int .u32 0,.int .u32 0,.int .u32 0,.int .u32 0,.int .u32 0,.int .u32 0,.int .u32 0,.int .u32 0,.bool false,.int .u32 0,.int .u32 0,.int .u32 0,.int .u32 0,.int .u32 0,.int .u32 0,.int .u32 0,.int .u32 0,.int .u32 0,.int .u32 0,.int .u32 0,.int .u32 0,.int .u32 0,.int .u32 0,.int .u32 0,.int .u32 0,.int .u32 0,.int .u32 0,.int .u32 0,.int .u32 0,.int .u32 0,.int .u32 0,.int .u32 0,.int .u32 0,.int .u32 0,.int .u32 0,.int .u32 0,.int .u32 0,.int .u32 0,.int .u32 0,.int .u32 0,.int .u32 0,.string ByteArray.empty,.int .i64 0,.bool false],kind:=1,fields:=[(0,138)] }
def ti147:TI:={ row:=true,size:=76,zero:=#[.int .i64 0,.string ByteArray.empty,.string ByteArray.empty,.string ByteArray.empty,.int .i64 0,.int .i64 0,.int .i64 0,.bool false,.int .u32 0,.int .u32 0,.int .u32 0,.int .u32 0,.int .u32 0,.int .u32 0,.int .u32 0,.int .u32 0,.int .u32 0,.int .u32 0,.int .u32 0,.int .u32 0,.int .u32 0,.int .u32 0,.int .u32 0,.int .u32 0,.int .u32 0,.int .u32 0,.int .u32 0,.int .u32 0,.int .u32 0,.int .u32 0,.int .u32 0,.int .u32 0,.int .u32 0,.int .u32 0,.int .u32 0,.int .u32 0,.int .u32 0,.int .u32 0,.int .u32 0,.int .u32 0,.bool false,.int .u32 0,.int .u32 0,.int .u32 0,.int .u32 0,.int .u32 0,.int .u32 0,.int .u32 0,.int .u32 0,.int .u32 0,.int .u32 0,.int .u32 0,.int .u32 0,.int .u32 0,.int .u32 0,.int .u32 0,.int .u32 0,.int .u32 0,.int .u32 0,.int .u32 0,.int .u32 0,.int .u32 0,.int .u32 0,.int .u32 0,.int .u32 0,.int .u32 0,.int .u32 0,.int .u32 0,.int .u32 0,.int .u32 0,.int .u32 0,.int .u32 0,.int .u32 0,.string ByteArray.empty,.int .i64 0,.bool false],kind:=1,fields:=[(0,138)] }
def ti162:TI:={ row:=true,size:=3,zero:=#[.string ByteArray.empty,.int .i64 0,.int .i64 0],kind:=1,fields:=[(0,95),(2,3)] }
def ti163:TI:={ row:=true,size:=3,zero:=#[.string ByteArray.empty,.int .i64 0,.int .i64 0],kind:=1,fields:=[(0,95),(2,3)] }
def ti188:TI:={ row:=true,size:=32,zero:=(Array.replicate 32 (.int .u32 0)),kind:=2,len:=32,elem:=54 }
def ti203:TI:={ row:=true,size:=64,zero:=(Array.replicate 64 (.int .u32 0)),kind:=2,len:=64,elem:=54 }
def ti235:TI:={ row:=true,size:=35,zero:=#[.bool false,.int .u32 0,.int .u32 0,.int .u32 0,.int .u32 0,.int .u32 0,.int .u32 0,.int .u32 0,.int .u32 0,.int .u32 0,.int .u32 0,.int .u32 0,.int .u32 0,.int .u32 0,.int .u32 0,.int .u32 0,.int .u32 0,.int .u32 0,.int .u32 0,.int .u32 0,.int .u32 0,.int .u32 0,.int .u32 0,.int .u32 0,.int .u32 0,.int .u32 0,.int .u32 0,.int .u32 0,.int .u32 0,.int .u32 0,.int .u32 0,.int .u32 0,.int .u32 0,.int .i64 0,.bool false],kind:=1,fields:=[(0,57),(33,3),(34,4)] }
def ti236:TI:={ row:=true,size:=35,zero:=#[.bool false,.int .u32 0,.int .u32 0,.int .u32 0,.int .u32 0,.int .u32 0,.int .u32 0,.int .u32 0,.int .u32 0,.int .u32 0,.int .u32 0,.int .u32 0,.int .u32 0,.int .u32 0,.int .u32 0,.int .u32 0,.int .u32 0,.int .u32 0,.int .u32 0,.int .u32 0,.int .u32 0,.int .u32 0,.int .u32 0,.int .u32 0,.int .u32 0,.int .u32 0,.int .u32 0,.int .u32 0,.int .u32 0,.int .u32 0,.int .u32 0,.int .u32 0,.int .u32 0,.int .i64 0,.bool false],kind:=1,fields:=[(0,57),(33,3),(34,4)] }
def ti257:TI:={ row:=true,size:=33,zero:=(Array.replicate 33 (.int .u32 0)),kind:=2,len:=33,elem:=54 }
def ti273:TI:={ row:=true,size:=256,zero:=(Array.replicate 256 (.bool false)),kind:=2,len:=256,elem:=4 }
def ti274:TI:={ row:=true,size:=256,zero:=(Array.replicate 256 (.bool false)),kind:=2,len:=256,elem:=4 }
def ti283:TI:={ row:=true,size:=2,zero:=#[.pointer none,.slice none 0 0],kind:=1,fields:=[(0,282),(1,270)] }
def ti284:TI:={ row:=true,size:=2,zero:=#[.pointer none,.slice none 0 0],kind:=1,fields:=[(0,282),(1,270)] }
def ti303:TI:={ row:=true,size:=256,zero:=(Array.replicate 256 (.int .u8 0)),kind:=2,len:=256,elem:=5 }
def ti304:TI:={ row:=true,size:=2,zero:=#[.int .u8 0,.int .u8 0],kind:=1,fields:=[(0,5),(1,5)] }
def ti305:TI:={ row:=true,size:=2,zero:=#[.int .u8 0,.int .u8 0],kind:=1,fields:=[(0,5),(1,5)] }
def ti306:TI:={ row:=true,size:=32,zero:=(Array.replicate 32 (.int .u8 0)),kind:=2,len:=16,elem:=305 }
def ti308:TI:={ row:=true,size:=4,zero:=#[.pointer none,.pointer none,.pointer none,.string ByteArray.empty],kind:=1,fields:=[(0,17),(1,17),(2,17),(3,9)] }
def ti309:TI:={ row:=true,size:=4,zero:=#[.pointer none,.pointer none,.pointer none,.string ByteArray.empty],kind:=1,fields:=[(0,17),(1,17),(2,17),(3,9)] }
def ti310:TI:={ row:=true,size:=0,zero:=#[],kind:=2,len:=0,elem:=16 }
def ti311:TI:={ row:=true,size:=0,zero:=#[],kind:=1,fields:=[(0,310)] }
def ti312:TI:={ row:=true,size:=0,zero:=#[],kind:=1,fields:=[(0,310)] }
def ti318:TI:={ row:=true,size:=11,zero:=#[.int .u64 0,.int .u64 0,.int .u32 0,.int .u8 0,.int .u8 0,.int .u8 0,.int .u8 0,.nilFunc,.pointer none,.int .i32 0,.int .i32 0],kind:=1,fields:=[(0,12),(1,12),(2,54),(3,313),(4,5),(5,5),(6,314),(7,315),(8,296),(9,316),(10,317)] }
def ti319:TI:={ row:=true,size:=11,zero:=#[.int .u64 0,.int .u64 0,.int .u32 0,.int .u8 0,.int .u8 0,.int .u8 0,.int .u8 0,.nilFunc,.pointer none,.int .i32 0,.int .i32 0],kind:=1,fields:=[(0,12),(1,12),(2,54),(3,313),(4,5),(5,5),(6,314),(7,315),(8,296),(9,316),(10,317)] }
def ti321:TI:={ row:=true,size:=1,zero:=#[.string ByteArray.empty],kind:=1,fields:=[(0,9)] }
def ti322:TI:={ row:=true,size:=1,zero:=#[.string ByteArray.empty],kind:=1,fields:=[(0,9)] }
def tt_0:TypeId→Option TI
 | 1=>some (tV .nilFunc)
 | 2=>some (tI .i64)
 | 3=>some ti3
 | 4=>some ti4
 | 5=>some ti5
 | 6=>some (tI .u8)
 | 7=>some ti7
 | 8=>some ti8
 | 9=>some ti9
 | 10=>some (tV (.string ByteArray.empty))
 | 11=>some (tV (.string ByteArray.empty))
 | 12=>some (tI .u64)
 | 13=>some ti13
 | 14=>some ti14
 | 15=>some (tV (.pointer none))
 | 16=>some (tV (.pointer none))
 | _=>none
def tt_1:TypeId→Option TI
 | 17=>some (tV (.pointer none))
 | 18=>some ti18
 | 19=>some ti19
 | 20=>some (tV .nilIface)
 | 21=>some (tI .i32)
 | 22=>some (tS 47)
 | 23=>some (tS 61)
 | 24=>some (tI .i64)
 | 26=>some (tV .nilFunc)
 | 27=>some (tS 90)
 | 28=>some ti28
 | 29=>some ti29
 | 30=>some ti30
 | 32=>some (tV .nilFunc)
 | 33=>some (tV .nilFunc)
 | 34=>some (tV .nilFunc)
 | _=>none
def tt_2:TypeId→Option TI
 | 35=>some (tV .nilFunc)
 | 36=>some (tV .nilFunc)
 | 37=>some (tV .nilFunc)
 | 38=>some (tV .nilFunc)
 | 39=>some (tV .nilFunc)
 | 40=>some (tV .nilFunc)
 | 41=>some (tS 3)
 | 43=>some (tV .nilFunc)
 | 44=>some (tS 103)
 | 45=>some (tV .nilFunc)
 | 46=>some ti46
 | 47=>some ti47
 | 49=>some (tV .nilFunc)
 | 50=>some (tV .nilFunc)
 | 51=>some (tV .nilFunc)
 | 52=>some (tV .nilFunc)
 | _=>none
def tt_3:TypeId→Option TI
 | 53=>some (tV .nilFunc)
 | 54=>some ti54
 | 55=>some ti55
 | 56=>some ti56
 | 57=>some ti57
 | 58=>some ti58
 | 59=>some ti59
 | 60=>some ti60
 | 61=>some ti61
 | 62=>some (tV .nilFunc)
 | 63=>some (tV (.pointer none))
 | 64=>some ti64
 | 65=>some ti65
 | 66=>some ti66
 | 67=>some ti67
 | 68=>some ti68
 | _=>none
def tt_4:TypeId→Option TI
 | 69=>some ti69
 | 70=>some ti70
 | 71=>some ti71
 | 72=>some ti72
 | 73=>some ti73
 | 74=>some (tV .nilFunc)
 | 75=>some (tV .nilFunc)
 | 76=>some (tV .nilFunc)
 | 77=>some (tV .nilFunc)
 | 78=>some (tV .nilFunc)
 | 79=>some (tV .nilFunc)
 | 80=>some (tV (.pointer none))
 | 81=>some (tV .nilFunc)
 | 82=>some (tV .nilFunc)
 | 83=>some (tV .nilFunc)
 | 84=>some ti84
 | _=>none
def tt_5:TypeId→Option TI
 | 85=>some ti85
 | 86=>some (tV .nilFunc)
 | 87=>some (tV .nilFunc)
 | 88=>some (tV .nilFunc)
 | 89=>some ti89
 | 90=>some ti90
 | 91=>some (tV .nilFunc)
 | 92=>some (tV .nilFunc)
 | 93=>some (tS 28)
 | 94=>some ti94
 | 95=>some ti95
 | 96=>some (tV .nilFunc)
 | 97=>some (tV .nilFunc)
 | 98=>some (tV .nilFunc)
 | 99=>some (tV (.map none))
 | 100=>some (tV .nilFunc)
 | _=>none
def tt_6:TypeId→Option TI
 | 101=>some (tV .nilFunc)
 | 102=>some ti102
 | 103=>some ti103
 | 104=>some (tV .nilFunc)
 | 105=>some (tV .nilFunc)
 | 106=>some (tV .nilFunc)
 | 107=>some (tV .nilFunc)
 | 108=>some (tV .nilFunc)
 | 109=>some (tV .nilFunc)
 | 110=>some (tV .nilFunc)
 | 111=>some (tV .nilFunc)
 | 112=>some ti112
 | 113=>some ti113
 | 115=>some (tV .nilFunc)
 | 116=>some (tV .nilFunc)
 | 117=>some (tV .nilFunc)
 | _=>none
def tt_7:TypeId→Option TI
 | 118=>some (tV .nilFunc)
 | 119=>some ti119
 | 120=>some ti120
 | 122=>some (tV .nilFunc)
 | 123=>some (tV .nilFunc)
 | 124=>some (tV .nilFunc)
 | 125=>some (tV .nilFunc)
 | 126=>some (tV .nilFunc)
 | 128=>some (tV .nilFunc)
 | 129=>some (tV .nilFunc)
 | 130=>some (tV .nilFunc)
 | 131=>some (tV .nilFunc)
 | 132=>some (tV .nilFunc)
 | 133=>some (tV .nilFunc)
 | 134=>some (tV .nilFunc)
 | 135=>some (tV .nilFunc)
 | _=>none
def tt_8:TypeId→Option TI
 | 136=>some (tI .u64)
 | 137=>some ti137
 | 138=>some ti138
 | 139=>some (tV .nilFunc)
 | 140=>some (tV .nilFunc)
 | 141=>some (tV .nilFunc)
 | 142=>some (tV .nilFunc)
 | 143=>some (tV (.pointer none))
 | 145=>some (tV .nilFunc)
 | 146=>some ti146
 | 147=>some ti147
 | 149=>some (tV .nilFunc)
 | 151=>some (tV .nilFunc)
 | 152=>some (tV .nilFunc)
 | 153=>some (tV .nilFunc)
 | 155=>some (tV .nilFunc)
 | _=>none
def tt_9:TypeId→Option TI
 | 156=>some (tV .nilFunc)
 | 157=>some (tV .nilFunc)
 | 158=>some (tV .nilFunc)
 | 159=>some (tV (.pointer none))
 | 160=>some (tV .nilFunc)
 | 161=>some (tV .nilFunc)
 | 162=>some ti162
 | 163=>some ti163
 | 164=>some (tV .nilFunc)
 | 165=>some (tV .nilFunc)
 | 166=>some (tV .nilFunc)
 | 168=>some (tV .nilFunc)
 | 169=>some (tV .nilFunc)
 | 171=>some (tV .nilFunc)
 | 172=>some (tV .nilFunc)
 | 173=>some (tV .nilFunc)
 | _=>none
def tt_10:TypeId→Option TI
 | 174=>some (tI .i64)
 | 176=>some (tV .nilFunc)
 | 177=>some (tV .nilFunc)
 | 178=>some (tV .nilFunc)
 | 179=>some (tV .nilFunc)
 | 180=>some (tV .nilFunc)
 | 181=>some (tV .nilFunc)
 | 182=>some (tV .nilFunc)
 | 183=>some (tI .u64)
 | 184=>some (tV .nilFunc)
 | 185=>some (tV .nilFunc)
 | 186=>some (tV .nilFunc)
 | 187=>some (tV .nilFunc)
 | 188=>some ti188
 | 190=>some (tV .nilFunc)
 | 191=>some (tV .nilFunc)
 | _=>none
def tt_11:TypeId→Option TI
 | 192=>some (tV .nilFunc)
 | 193=>some (tV .nilFunc)
 | 194=>some (tV .nilFunc)
 | 195=>some (tV .nilFunc)
 | 196=>some (tV .nilFunc)
 | 197=>some (tV .nilFunc)
 | 198=>some (tV .nilFunc)
 | 199=>some (tV .nilFunc)
 | 200=>some (tV .nilFunc)
 | 201=>some (tV .nilFunc)
 | 202=>some (tV .nilFunc)
 | 203=>some ti203
 | 204=>some (tV .nilFunc)
 | 205=>some (tV .nilFunc)
 | 206=>some (tV .nilFunc)
 | 208=>some (tV .nilFunc)
 | _=>none
def tt_12:TypeId→Option TI
 | 209=>some (tV .nilFunc)
 | 211=>some (tV .nilFunc)
 | 212=>some (tV .nilFunc)
 | 213=>some (tI .u64)
 | 214=>some (tV .nilFunc)
 | 215=>some (tV .nilFunc)
 | 216=>some (tV .nilFunc)
 | 217=>some (tV (.pointer none))
 | 218=>some (tV .nilFunc)
 | 220=>some (tV .nilFunc)
 | 221=>some (tV .nilFunc)
 | 222=>some (tV .nilFunc)
 | 223=>some (tV .nilFunc)
 | 225=>some (tV .nilFunc)
 | 226=>some (tV (.pointer none))
 | 228=>some (tV .nilFunc)
 | _=>none
def tt_13:TypeId→Option TI
 | 229=>some (tV .nilFunc)
 | 230=>some (tV .nilFunc)
 | 232=>some (tV .nilFunc)
 | 233=>some (tV .nilFunc)
 | 234=>some (tV .nilFunc)
 | 235=>some ti235
 | 236=>some ti236
 | 237=>some (tV .nilFunc)
 | 238=>some (tV .nilFunc)
 | 239=>some (tV .nilFunc)
 | 240=>some (tV .nilFunc)
 | 241=>some (tV .nilFunc)
 | 242=>some (tV .nilFunc)
 | 243=>some (tV .nilFunc)
 | 244=>some (tV .nilFunc)
 | 245=>some (tV (.pointer none))
 | _=>none
def tt_14:TypeId→Option TI
 | 247=>some (tV .nilFunc)
 | 249=>some (tV .nilFunc)
 | 250=>some (tV .nilFunc)
 | 252=>some (tV .nilFunc)
 | 253=>some (tV .nilFunc)
 | 254=>some (tS 54)
 | 255=>some (tV .nilFunc)
 | 256=>some (tV .nilFunc)
 | 257=>some ti257
 | 259=>some (tV .nilFunc)
 | 260=>some (tV .nilFunc)
 | 261=>some (tV .nilFunc)
 | 262=>some (tV .nilFunc)
 | 263=>some (tV .nilFunc)
 | 265=>some (tV .nilFunc)
 | 266=>some (tV .nilFunc)
 | _=>none
def tt_15:TypeId→Option TI
 | 268=>some (tV .nilFunc)
 | 269=>some (tV .nilFunc)
 | 270=>some (tS 5)
 | 271=>some (tV .nilFunc)
 | 272=>some (tV .nilFunc)
 | 273=>some ti273
 | 274=>some ti274
 | 276=>some (tV .nilFunc)
 | 277=>some (tV .nilFunc)
 | 278=>some (tV (.pointer none))
 | 279=>some (tV .nilFunc)
 | 281=>some (tV .nilFunc)
 | 282=>some (tV (.pointer none))
 | 283=>some ti283
 | 284=>some ti284
 | 285=>some (tV .nilFunc)
 | _=>none
def tt_16:TypeId→Option TI
 | 286=>some (tV .nilIface)
 | 287=>some (tV .nilIface)
 | 289=>some (tV .nilFunc)
 | 291=>some (tV .nilFunc)
 | 292=>some (tV .nilFunc)
 | 293=>some (tV .nilFunc)
 | 295=>some (tV .nilFunc)
 | 296=>some (tV (.pointer none))
 | 297=>some (tV .nilFunc)
 | 299=>some (tV .nilFunc)
 | 300=>some (tV .nilFunc)
 | 301=>some (tV .nilFunc)
 | 302=>some (tV .nilFunc)
 | 303=>some ti303
 | 304=>some ti304
 | 305=>some ti305
 | _=>none
def tt_17:TypeId→Option TI
 | 306=>some ti306
 | 307=>some (tV (.pointer none))
 | 308=>some ti308
 | 309=>some ti309
 | 310=>some ti310
 | 311=>some ti311
 | 312=>some ti312
 | 313=>some (tI .u8)
 | 314=>some (tI .u8)
 | 315=>some (tV .nilFunc)
 | 316=>some (tI .i32)
 | 317=>some (tI .i32)
 | 318=>some ti318
 | 319=>some ti319
 | 320=>some (tV .nilFunc)
 | 321=>some ti321
 | _=>none
def tt_18:TypeId→Option TI
 | 322=>some ti322
 | _=>none
def tt (ty:TypeId):Option TI :=
 if Nat.ble 323 ty then none else
 if Nat.ble ty 16 then tt_0 ty else
 if Nat.ble ty 34 then tt_1 ty else
 if Nat.ble ty 52 then tt_2 ty else
 if Nat.ble ty 68 then tt_3 ty else
 if Nat.ble ty 84 then tt_4 ty else
 if Nat.ble ty 100 then tt_5 ty else
 if Nat.ble ty 117 then tt_6 ty else
 if Nat.ble ty 135 then tt_7 ty else
 if Nat.ble ty 155 then tt_8 ty else
 if Nat.ble ty 173 then tt_9 ty else
 if Nat.ble ty 191 then tt_10 ty else
 if Nat.ble ty 208 then tt_11 ty else
 if Nat.ble ty 228 then tt_12 ty else
 if Nat.ble ty 245 then tt_13 ty else
 if Nat.ble ty 266 then tt_14 ty else
 if Nat.ble ty 285 then tt_15 ty else
 if Nat.ble ty 305 then tt_16 ty else
 if Nat.ble ty 321 then tt_17 ty else
 tt_18 ty
theorem tt_ok:TTok Tryz.prog tt:=tt_of 323 (fun _ h=>if_pos (Nat.ble_eq_true_of_le h)) (by kernel_rfl)
theorem tok3:TIok Tryz.prog 3 ti3:=tt_ok 3 _ rfl
theorem tok4:TIok Tryz.prog 4 ti4:=tt_ok 4 _ rfl
theorem tok9:TIok Tryz.prog 9 ti9:=tt_ok 9 _ rfl
theorem tok54:TIok Tryz.prog 54 ti54:=tt_ok 54 _ rfl
theorem tok55:TIok Tryz.prog 55 ti55:=tt_ok 55 _ rfl
theorem tok57:TIok Tryz.prog 57 ti57:=tt_ok 57 _ rfl
theorem tok59:TIok Tryz.prog 59 ti59:=tt_ok 59 _ rfl
theorem tok120:TIok Tryz.prog 120 ti120:=tt_ok 120 _ rfl
theorem tok163:TIok Tryz.prog 163 ti163:=tt_ok 163 _ rfl
theorem mixed:Tryz.prog.follows .mixedOrders=true:=by kernel_rfl
set_option maxRecDepth 100000
theorem at3:FnOk Tryz.prog 3 Tryz.f3:=⟨Tryz.func3,rfl,rfl,rfl,by kernel_rfl⟩
theorem at4:FnOk Tryz.prog 4 Tryz.f4:=⟨Tryz.func4,rfl,rfl,rfl,by kernel_rfl⟩
theorem at5:FnOk Tryz.prog 5 Tryz.f5:=⟨Tryz.func5,rfl,rfl,rfl,by kernel_rfl⟩
theorem at6:FnOk Tryz.prog 6 Tryz.f6:=⟨Tryz.func6,rfl,rfl,rfl,by kernel_rfl⟩
theorem at7:FnOk Tryz.prog 7 Tryz.f7:=⟨Tryz.func7,rfl,rfl,rfl,by kernel_rfl⟩
theorem at8:FnOk Tryz.prog 8 Tryz.f8:=⟨Tryz.func8,rfl,rfl,rfl,by kernel_rfl⟩
theorem at9:FnOk Tryz.prog 9 Tryz.f9:=⟨Tryz.func9,rfl,rfl,rfl,by kernel_rfl⟩
theorem at10:FnOk Tryz.prog 10 Tryz.f10:=⟨Tryz.func10,rfl,rfl,rfl,by kernel_rfl⟩
theorem at11:FnOk Tryz.prog 11 Tryz.f11:=⟨Tryz.func11,rfl,rfl,rfl,by kernel_rfl⟩
theorem at12:FnOk Tryz.prog 12 Tryz.f12:=⟨Tryz.func12,rfl,rfl,rfl,by kernel_rfl⟩
theorem at13:FnOk Tryz.prog 13 Tryz.f13:=⟨Tryz.func13,rfl,rfl,rfl,by kernel_rfl⟩
theorem at14:FnOk Tryz.prog 14 Tryz.f14:=⟨Tryz.func14,rfl,rfl,rfl,by kernel_rfl⟩
theorem at15:FnOk Tryz.prog 15 Tryz.f15:=⟨Tryz.func15,rfl,rfl,rfl,by kernel_rfl⟩
theorem at16:FnOk Tryz.prog 16 Tryz.f16:=⟨Tryz.func16,rfl,rfl,rfl,by kernel_rfl⟩
theorem at17:FnOk Tryz.prog 17 Tryz.f17:=⟨Tryz.func17,rfl,rfl,rfl,by kernel_rfl⟩
theorem at18:FnOk Tryz.prog 18 Tryz.f18:=⟨Tryz.func18,rfl,rfl,rfl,by kernel_rfl⟩
theorem at19:FnOk Tryz.prog 19 Tryz.f19:=⟨Tryz.func19,rfl,rfl,rfl,by kernel_rfl⟩
theorem at20:FnOk Tryz.prog 20 Tryz.f20:=⟨Tryz.func20,rfl,rfl,rfl,by kernel_rfl⟩
theorem at21:FnOk Tryz.prog 21 Tryz.f21:=⟨Tryz.func21,rfl,rfl,rfl,by kernel_rfl⟩
theorem at22:FnOk Tryz.prog 22 Tryz.f22:=⟨Tryz.func22,rfl,rfl,rfl,by kernel_rfl⟩
theorem at23:FnOk Tryz.prog 23 Tryz.f23:=⟨Tryz.func23,rfl,rfl,rfl,by kernel_rfl⟩
theorem at24:FnOk Tryz.prog 24 Tryz.f24:=⟨Tryz.func24,rfl,rfl,rfl,by kernel_rfl⟩
theorem at25:FnOk Tryz.prog 25 Tryz.f25:=⟨Tryz.func25,rfl,rfl,rfl,by kernel_rfl⟩
theorem at26:FnOk Tryz.prog 26 Tryz.f26:=⟨Tryz.func26,rfl,rfl,rfl,by kernel_rfl⟩
theorem at27:FnOk Tryz.prog 27 Tryz.f27:=⟨Tryz.func27,rfl,rfl,rfl,by kernel_rfl⟩
theorem at28:FnOk Tryz.prog 28 Tryz.f28:=⟨Tryz.func28,rfl,rfl,rfl,by kernel_rfl⟩
theorem at29:FnOk Tryz.prog 29 Tryz.f29:=⟨Tryz.func29,rfl,rfl,rfl,by kernel_rfl⟩
theorem at30:FnOk Tryz.prog 30 Tryz.f30:=⟨Tryz.func30,rfl,rfl,rfl,by kernel_rfl⟩
theorem at31:FnOk Tryz.prog 31 Tryz.f31:=⟨Tryz.func31,rfl,rfl,rfl,by kernel_rfl⟩
theorem at32:FnOk Tryz.prog 32 Tryz.f32:=⟨Tryz.func32,rfl,rfl,rfl,by kernel_rfl⟩
theorem at33:FnOk Tryz.prog 33 Tryz.f33:=⟨Tryz.func33,rfl,rfl,rfl,by kernel_rfl⟩
theorem at34:FnOk Tryz.prog 34 Tryz.f34:=⟨Tryz.func34,rfl,rfl,rfl,by kernel_rfl⟩
theorem at35:FnOk Tryz.prog 35 Tryz.f35:=⟨Tryz.func35,rfl,rfl,rfl,by kernel_rfl⟩
theorem at36:FnOk Tryz.prog 36 Tryz.f36:=⟨Tryz.func36,rfl,rfl,rfl,by kernel_rfl⟩
theorem at37:FnOk Tryz.prog 37 Tryz.f37:=⟨Tryz.func37,rfl,rfl,rfl,by kernel_rfl⟩
theorem at38:FnOk Tryz.prog 38 Tryz.f38:=⟨Tryz.func38,rfl,rfl,rfl,by kernel_rfl⟩
theorem at39:FnOk Tryz.prog 39 Tryz.f39:=⟨Tryz.func39,rfl,rfl,rfl,by kernel_rfl⟩
theorem at40:FnOk Tryz.prog 40 Tryz.f40:=⟨Tryz.func40,rfl,rfl,rfl,by kernel_rfl⟩
theorem at41:FnOk Tryz.prog 41 Tryz.f41:=⟨Tryz.func41,rfl,rfl,rfl,by kernel_rfl⟩
theorem at42:FnOk Tryz.prog 42 Tryz.f42:=⟨Tryz.func42,rfl,rfl,rfl,by kernel_rfl⟩
theorem at43:FnOk Tryz.prog 43 Tryz.f43:=⟨Tryz.func43,rfl,rfl,rfl,by kernel_rfl⟩
theorem at44:FnOk Tryz.prog 44 Tryz.f44:=⟨Tryz.func44,rfl,rfl,rfl,by kernel_rfl⟩
theorem at45:FnOk Tryz.prog 45 Tryz.f45:=⟨Tryz.func45,rfl,rfl,rfl,by kernel_rfl⟩
theorem at46:FnOk Tryz.prog 46 Tryz.f46:=⟨Tryz.func46,rfl,rfl,rfl,by kernel_rfl⟩
theorem at47:FnOk Tryz.prog 47 Tryz.f47:=⟨Tryz.func47,rfl,rfl,rfl,by kernel_rfl⟩
theorem at48:FnOk Tryz.prog 48 Tryz.f48:=⟨Tryz.func48,rfl,rfl,rfl,by kernel_rfl⟩
theorem at49:FnOk Tryz.prog 49 Tryz.f49:=⟨Tryz.func49,rfl,rfl,rfl,by kernel_rfl⟩
theorem at50:FnOk Tryz.prog 50 Tryz.f50:=⟨Tryz.func50,rfl,rfl,rfl,by kernel_rfl⟩
theorem at51:FnOk Tryz.prog 51 Tryz.f51:=⟨Tryz.func51,rfl,rfl,rfl,by kernel_rfl⟩
theorem at52:FnOk Tryz.prog 52 Tryz.f52:=⟨Tryz.func52,rfl,rfl,rfl,by kernel_rfl⟩
theorem at53:FnOk Tryz.prog 53 Tryz.f53:=⟨Tryz.func53,rfl,rfl,rfl,by kernel_rfl⟩
theorem at54:FnOk Tryz.prog 54 Tryz.f54:=⟨Tryz.func54,rfl,rfl,rfl,by kernel_rfl⟩
theorem at55:FnOk Tryz.prog 55 Tryz.f55:=⟨Tryz.func55,rfl,rfl,rfl,by kernel_rfl⟩
theorem at56:FnOk Tryz.prog 56 Tryz.f56:=⟨Tryz.func56,rfl,rfl,rfl,by kernel_rfl⟩
theorem at57:FnOk Tryz.prog 57 Tryz.f57:=⟨Tryz.func57,rfl,rfl,rfl,by kernel_rfl⟩
theorem at58:FnOk Tryz.prog 58 Tryz.f58:=⟨Tryz.func58,rfl,rfl,rfl,by kernel_rfl⟩
theorem at59:FnOk Tryz.prog 59 Tryz.f59:=⟨Tryz.func59,rfl,rfl,rfl,by kernel_rfl⟩
theorem at60:FnOk Tryz.prog 60 Tryz.f60:=⟨Tryz.func60,rfl,rfl,rfl,by kernel_rfl⟩
theorem at61:FnOk Tryz.prog 61 Tryz.f61:=⟨Tryz.func61,rfl,rfl,rfl,by kernel_rfl⟩
theorem at62:FnOk Tryz.prog 62 Tryz.f62:=⟨Tryz.func62,rfl,rfl,rfl,by kernel_rfl⟩
theorem at63:FnOk Tryz.prog 63 Tryz.f63:=⟨Tryz.func63,rfl,rfl,rfl,by kernel_rfl⟩
theorem at64:FnOk Tryz.prog 64 Tryz.f64:=⟨Tryz.func64,rfl,rfl,rfl,by kernel_rfl⟩
theorem at65:FnOk Tryz.prog 65 Tryz.f65:=⟨Tryz.func65,rfl,rfl,rfl,by kernel_rfl⟩
theorem at66:FnOk Tryz.prog 66 Tryz.f66:=⟨Tryz.func66,rfl,rfl,rfl,by kernel_rfl⟩
theorem at67:FnOk Tryz.prog 67 Tryz.f67:=⟨Tryz.func67,rfl,rfl,rfl,by kernel_rfl⟩
theorem at68:FnOk Tryz.prog 68 Tryz.f68:=⟨Tryz.func68,rfl,rfl,rfl,by kernel_rfl⟩
theorem at69:FnOk Tryz.prog 69 Tryz.f69:=⟨Tryz.func69,rfl,rfl,rfl,by kernel_rfl⟩
theorem at70:FnOk Tryz.prog 70 Tryz.f70:=⟨Tryz.func70,rfl,rfl,rfl,by kernel_rfl⟩
theorem at71:FnOk Tryz.prog 71 Tryz.f71:=⟨Tryz.func71,rfl,rfl,rfl,by kernel_rfl⟩
theorem at72:FnOk Tryz.prog 72 Tryz.f72:=⟨Tryz.func72,rfl,rfl,rfl,by kernel_rfl⟩
theorem at73:FnOk Tryz.prog 73 Tryz.f73:=⟨Tryz.func73,rfl,rfl,rfl,by kernel_rfl⟩
theorem at74:FnOk Tryz.prog 74 Tryz.f74:=⟨Tryz.func74,rfl,rfl,rfl,by kernel_rfl⟩
theorem at75:FnOk Tryz.prog 75 Tryz.f75:=⟨Tryz.func75,rfl,rfl,rfl,by kernel_rfl⟩
theorem at76:FnOk Tryz.prog 76 Tryz.f76:=⟨Tryz.func76,rfl,rfl,rfl,by kernel_rfl⟩
theorem at77:FnOk Tryz.prog 77 Tryz.f77:=⟨Tryz.func77,rfl,rfl,rfl,by kernel_rfl⟩
theorem at78:FnOk Tryz.prog 78 Tryz.f78:=⟨Tryz.func78,rfl,rfl,rfl,by kernel_rfl⟩
theorem at79:FnOk Tryz.prog 79 Tryz.f79:=⟨Tryz.func79,rfl,rfl,rfl,by kernel_rfl⟩
theorem at80:FnOk Tryz.prog 80 Tryz.f80:=⟨Tryz.func80,rfl,rfl,rfl,by kernel_rfl⟩
theorem at81:FnOk Tryz.prog 81 Tryz.f81:=⟨Tryz.func81,rfl,rfl,rfl,by kernel_rfl⟩
theorem at82:FnOk Tryz.prog 82 Tryz.f82:=⟨Tryz.func82,rfl,rfl,rfl,by kernel_rfl⟩
theorem at83:FnOk Tryz.prog 83 Tryz.f83:=⟨Tryz.func83,rfl,rfl,rfl,by kernel_rfl⟩
theorem at86:FnOk Tryz.prog 86 Tryz.f86:=⟨Tryz.func86,rfl,rfl,rfl,by kernel_rfl⟩
theorem at87:FnOk Tryz.prog 87 Tryz.f87:=⟨Tryz.func87,rfl,rfl,rfl,by kernel_rfl⟩
theorem at88:FnOk Tryz.prog 88 Tryz.f88:=⟨Tryz.func88,rfl,rfl,rfl,by kernel_rfl⟩
theorem at89:FnOk Tryz.prog 89 Tryz.f89:=⟨Tryz.func89,rfl,rfl,rfl,by kernel_rfl⟩
theorem at90:FnOk Tryz.prog 90 Tryz.f90:=⟨Tryz.func90,rfl,rfl,rfl,by kernel_rfl⟩
theorem at92:FnOk Tryz.prog 92 Tryz.f92:=⟨Tryz.func92,rfl,rfl,rfl,by kernel_rfl⟩
theorem at93:FnOk Tryz.prog 93 Tryz.f93:=⟨Tryz.func93,rfl,rfl,rfl,by kernel_rfl⟩
theorem at94:FnOk Tryz.prog 94 Tryz.f94:=⟨Tryz.func94,rfl,rfl,rfl,by kernel_rfl⟩
theorem at95:FnOk Tryz.prog 95 Tryz.f95:=⟨Tryz.func95,rfl,rfl,rfl,by kernel_rfl⟩
theorem at96:FnOk Tryz.prog 96 Tryz.f96:=⟨Tryz.func96,rfl,rfl,rfl,by kernel_rfl⟩
theorem at97:FnOk Tryz.prog 97 Tryz.f97:=⟨Tryz.func97,rfl,rfl,rfl,by kernel_rfl⟩
theorem at98:FnOk Tryz.prog 98 Tryz.f98:=⟨Tryz.func98,rfl,rfl,rfl,by kernel_rfl⟩
theorem at99:FnOk Tryz.prog 99 Tryz.f99:=⟨Tryz.func99,rfl,rfl,rfl,by kernel_rfl⟩
theorem at100:FnOk Tryz.prog 100 Tryz.f100:=⟨Tryz.func100,rfl,rfl,rfl,by kernel_rfl⟩
theorem at101:FnOk Tryz.prog 101 Tryz.f101:=⟨Tryz.func101,rfl,rfl,rfl,by kernel_rfl⟩
theorem at102:FnOk Tryz.prog 102 Tryz.f102:=⟨Tryz.func102,rfl,rfl,rfl,by kernel_rfl⟩
theorem at103:FnOk Tryz.prog 103 Tryz.f103:=⟨Tryz.func103,rfl,rfl,rfl,by kernel_rfl⟩
theorem at104:FnOk Tryz.prog 104 Tryz.f104:=⟨Tryz.func104,rfl,rfl,rfl,by kernel_rfl⟩
theorem at105:FnOk Tryz.prog 105 Tryz.f105:=⟨Tryz.func105,rfl,rfl,rfl,by kernel_rfl⟩
theorem at106:FnOk Tryz.prog 106 Tryz.f106:=⟨Tryz.func106,rfl,rfl,rfl,by kernel_rfl⟩
theorem at107:FnOk Tryz.prog 107 Tryz.f107:=⟨Tryz.func107,rfl,rfl,rfl,by kernel_rfl⟩
theorem at108:FnOk Tryz.prog 108 Tryz.f108:=⟨Tryz.func108,rfl,rfl,rfl,by kernel_rfl⟩
theorem at109:FnOk Tryz.prog 109 Tryz.f109:=⟨Tryz.func109,rfl,rfl,rfl,by kernel_rfl⟩
theorem at110:FnOk Tryz.prog 110 Tryz.f110:=⟨Tryz.func110,rfl,rfl,rfl,by kernel_rfl⟩
theorem at111:FnOk Tryz.prog 111 Tryz.f111:=⟨Tryz.func111,rfl,rfl,rfl,by kernel_rfl⟩
theorem at112:FnOk Tryz.prog 112 Tryz.f112:=⟨Tryz.func112,rfl,rfl,rfl,by kernel_rfl⟩
theorem at113:FnOk Tryz.prog 113 Tryz.f113:=⟨Tryz.func113,rfl,rfl,rfl,by kernel_rfl⟩
theorem at123:FnOk Tryz.prog 123 Tryz.f123:=⟨Tryz.func123,rfl,rfl,rfl,by kernel_rfl⟩
theorem at125:FnOk Tryz.prog 125 Tryz.f125:=⟨Tryz.func125,rfl,rfl,rfl,by kernel_rfl⟩
theorem at126:FnOk Tryz.prog 126 Tryz.f126:=⟨Tryz.func126,rfl,rfl,rfl,by kernel_rfl⟩
theorem at127:FnOk Tryz.prog 127 Tryz.f127:=⟨Tryz.func127,rfl,rfl,rfl,by kernel_rfl⟩
theorem at128:FnOk Tryz.prog 128 Tryz.f128:=⟨Tryz.func128,rfl,rfl,rfl,by kernel_rfl⟩
theorem at129:FnOk Tryz.prog 129 Tryz.f129:=⟨Tryz.func129,rfl,rfl,rfl,by kernel_rfl⟩
theorem at130:FnOk Tryz.prog 130 Tryz.f130:=⟨Tryz.func130,rfl,rfl,rfl,by kernel_rfl⟩
theorem at131:FnOk Tryz.prog 131 Tryz.f131:=⟨Tryz.func131,rfl,rfl,rfl,by kernel_rfl⟩
theorem at132:FnOk Tryz.prog 132 Tryz.f132:=⟨Tryz.func132,rfl,rfl,rfl,by kernel_rfl⟩
theorem at133:FnOk Tryz.prog 133 Tryz.f133:=⟨Tryz.func133,rfl,rfl,rfl,by kernel_rfl⟩
theorem at134:FnOk Tryz.prog 134 Tryz.f134:=⟨Tryz.func134,rfl,rfl,rfl,by kernel_rfl⟩
theorem at135:FnOk Tryz.prog 135 Tryz.f135:=⟨Tryz.func135,rfl,rfl,rfl,by kernel_rfl⟩
theorem at136:FnOk Tryz.prog 136 Tryz.f136:=⟨Tryz.func136,rfl,rfl,rfl,by kernel_rfl⟩
theorem at137:FnOk Tryz.prog 137 Tryz.f137:=⟨Tryz.func137,rfl,rfl,rfl,by kernel_rfl⟩
theorem at138:FnOk Tryz.prog 138 Tryz.f138:=⟨Tryz.func138,rfl,rfl,rfl,by kernel_rfl⟩
theorem at139:FnOk Tryz.prog 139 Tryz.f139:=⟨Tryz.func139,rfl,rfl,rfl,by kernel_rfl⟩
theorem at140:FnOk Tryz.prog 140 Tryz.f140:=⟨Tryz.func140,rfl,rfl,rfl,by kernel_rfl⟩
theorem at141:FnOk Tryz.prog 141 Tryz.f141:=⟨Tryz.func141,rfl,rfl,rfl,by kernel_rfl⟩
theorem at142:FnOk Tryz.prog 142 Tryz.f142:=⟨Tryz.func142,rfl,rfl,rfl,by kernel_rfl⟩
theorem at143:FnOk Tryz.prog 143 Tryz.f143:=⟨Tryz.func143,rfl,rfl,rfl,by kernel_rfl⟩
theorem at144:FnOk Tryz.prog 144 Tryz.f144:=⟨Tryz.func144,rfl,rfl,rfl,by kernel_rfl⟩
theorem at147:FnOk Tryz.prog 147 Tryz.f147:=⟨Tryz.func147,rfl,rfl,rfl,by kernel_rfl⟩
theorem at148:FnOk Tryz.prog 148 Tryz.f148:=⟨Tryz.func148,rfl,rfl,rfl,by kernel_rfl⟩
theorem at151:FnOk Tryz.prog 151 Tryz.f151:=⟨Tryz.func151,rfl,rfl,rfl,by kernel_rfl⟩
theorem at152:FnOk Tryz.prog 152 Tryz.f152:=⟨Tryz.func152,rfl,rfl,rfl,by kernel_rfl⟩
theorem at153:FnOk Tryz.prog 153 Tryz.f153:=⟨Tryz.func153,rfl,rfl,rfl,by kernel_rfl⟩
theorem at154:FnOk Tryz.prog 154 Tryz.f154:=⟨Tryz.func154,rfl,rfl,rfl,by kernel_rfl⟩
theorem at155:FnOk Tryz.prog 155 Tryz.f155:=⟨Tryz.func155,rfl,rfl,rfl,by kernel_rfl⟩
theorem at156:FnOk Tryz.prog 156 Tryz.f156:=⟨Tryz.func156,rfl,rfl,rfl,by kernel_rfl⟩
theorem at157:FnOk Tryz.prog 157 Tryz.f157:=⟨Tryz.func157,rfl,rfl,rfl,by kernel_rfl⟩
theorem at158:FnOk Tryz.prog 158 Tryz.f158:=⟨Tryz.func158,rfl,rfl,rfl,by kernel_rfl⟩
theorem at159:FnOk Tryz.prog 159 Tryz.f159:=⟨Tryz.func159,rfl,rfl,rfl,by kernel_rfl⟩
theorem at160:FnOk Tryz.prog 160 Tryz.f160:=⟨Tryz.func160,rfl,rfl,rfl,by kernel_rfl⟩
theorem at161:FnOk Tryz.prog 161 Tryz.f161:=⟨Tryz.func161,rfl,rfl,rfl,by kernel_rfl⟩
theorem at162:FnOk Tryz.prog 162 Tryz.f162:=⟨Tryz.func162,rfl,rfl,rfl,by kernel_rfl⟩
theorem at163:FnOk Tryz.prog 163 Tryz.f163:=⟨Tryz.func163,rfl,rfl,rfl,by kernel_rfl⟩
theorem at164:FnOk Tryz.prog 164 Tryz.f164:=⟨Tryz.func164,rfl,rfl,rfl,by kernel_rfl⟩
theorem at165:FnOk Tryz.prog 165 Tryz.f165:=⟨Tryz.func165,rfl,rfl,rfl,by kernel_rfl⟩
theorem at166:FnOk Tryz.prog 166 Tryz.f166:=⟨Tryz.func166,rfl,rfl,rfl,by kernel_rfl⟩
theorem at172:FnOk Tryz.prog 172 Tryz.f172:=⟨Tryz.func172,rfl,rfl,rfl,by kernel_rfl⟩
theorem at173:FnOk Tryz.prog 173 Tryz.f173:=⟨Tryz.func173,rfl,rfl,rfl,by kernel_rfl⟩
theorem at174:FnOk Tryz.prog 174 Tryz.f174:=⟨Tryz.func174,rfl,rfl,rfl,by kernel_rfl⟩
theorem at175:FnOk Tryz.prog 175 Tryz.f175:=⟨Tryz.func175,rfl,rfl,rfl,by kernel_rfl⟩
theorem at176:FnOk Tryz.prog 176 Tryz.f176:=⟨Tryz.func176,rfl,rfl,rfl,by kernel_rfl⟩
theorem at177:FnOk Tryz.prog 177 Tryz.f177:=⟨Tryz.func177,rfl,rfl,rfl,by kernel_rfl⟩
theorem at178:FnOk Tryz.prog 178 Tryz.f178:=⟨Tryz.func178,rfl,rfl,rfl,by kernel_rfl⟩
theorem at179:FnOk Tryz.prog 179 Tryz.f179:=⟨Tryz.func179,rfl,rfl,rfl,by kernel_rfl⟩
theorem at180:FnOk Tryz.prog 180 Tryz.f180:=⟨Tryz.func180,rfl,rfl,rfl,by kernel_rfl⟩
theorem at181:FnOk Tryz.prog 181 Tryz.f181:=⟨Tryz.func181,rfl,rfl,rfl,by kernel_rfl⟩
theorem at182:FnOk Tryz.prog 182 Tryz.f182:=⟨Tryz.func182,rfl,rfl,rfl,by kernel_rfl⟩
theorem at183:FnOk Tryz.prog 183 Tryz.f183:=⟨Tryz.func183,rfl,rfl,rfl,by kernel_rfl⟩
theorem at184:FnOk Tryz.prog 184 Tryz.f184:=⟨Tryz.func184,rfl,rfl,rfl,by kernel_rfl⟩
theorem at185:FnOk Tryz.prog 185 Tryz.f185:=⟨Tryz.func185,rfl,rfl,rfl,by kernel_rfl⟩
theorem at186:FnOk Tryz.prog 186 Tryz.f186:=⟨Tryz.func186,rfl,rfl,rfl,by kernel_rfl⟩
theorem at187:FnOk Tryz.prog 187 Tryz.f187:=⟨Tryz.func187,rfl,rfl,rfl,by kernel_rfl⟩
theorem at188:FnOk Tryz.prog 188 Tryz.f188:=⟨Tryz.func188,rfl,rfl,rfl,by kernel_rfl⟩
theorem at189:FnOk Tryz.prog 189 Tryz.f189:=⟨Tryz.func189,rfl,rfl,rfl,by kernel_rfl⟩
theorem at190:FnOk Tryz.prog 190 Tryz.f190:=⟨Tryz.func190,rfl,rfl,rfl,by kernel_rfl⟩
theorem at191:FnOk Tryz.prog 191 Tryz.f191:=⟨Tryz.func191,rfl,rfl,rfl,by kernel_rfl⟩
theorem at192:FnOk Tryz.prog 192 Tryz.f192:=⟨Tryz.func192,rfl,rfl,rfl,by kernel_rfl⟩
theorem at195:FnOk Tryz.prog 195 Tryz.f195:=⟨Tryz.func195,rfl,rfl,rfl,by kernel_rfl⟩
theorem at196:FnOk Tryz.prog 196 Tryz.f196:=⟨Tryz.func196,rfl,rfl,rfl,by kernel_rfl⟩
theorem at197:FnOk Tryz.prog 197 Tryz.f197:=⟨Tryz.func197,rfl,rfl,rfl,by kernel_rfl⟩
theorem at198:FnOk Tryz.prog 198 Tryz.f198:=⟨Tryz.func198,rfl,rfl,rfl,by kernel_rfl⟩
theorem at199:FnOk Tryz.prog 199 Tryz.f199:=⟨Tryz.func199,rfl,rfl,rfl,by kernel_rfl⟩
theorem at200:FnOk Tryz.prog 200 Tryz.f200:=⟨Tryz.func200,rfl,rfl,rfl,by kernel_rfl⟩
theorem at201:FnOk Tryz.prog 201 Tryz.f201:=⟨Tryz.func201,rfl,rfl,rfl,by kernel_rfl⟩
theorem at202:FnOk Tryz.prog 202 Tryz.f202:=⟨Tryz.func202,rfl,rfl,rfl,by kernel_rfl⟩
theorem at203:FnOk Tryz.prog 203 Tryz.f203:=⟨Tryz.func203,rfl,rfl,rfl,by kernel_rfl⟩
theorem at204:FnOk Tryz.prog 204 Tryz.f204:=⟨Tryz.func204,rfl,rfl,rfl,by kernel_rfl⟩
theorem at205:FnOk Tryz.prog 205 Tryz.f205:=⟨Tryz.func205,rfl,rfl,rfl,by kernel_rfl⟩
theorem at206:FnOk Tryz.prog 206 Tryz.f206:=⟨Tryz.func206,rfl,rfl,rfl,by kernel_rfl⟩
theorem at208:FnOk Tryz.prog 208 Tryz.f208:=⟨Tryz.func208,rfl,rfl,rfl,by kernel_rfl⟩
theorem at209:FnOk Tryz.prog 209 Tryz.f209:=⟨Tryz.func209,rfl,rfl,rfl,by kernel_rfl⟩
theorem at210:FnOk Tryz.prog 210 Tryz.f210:=⟨Tryz.func210,rfl,rfl,rfl,by kernel_rfl⟩
theorem at211:FnOk Tryz.prog 211 Tryz.f211:=⟨Tryz.func211,rfl,rfl,rfl,by kernel_rfl⟩
theorem at212:FnOk Tryz.prog 212 Tryz.f212:=⟨Tryz.func212,rfl,rfl,rfl,by kernel_rfl⟩
theorem at213:FnOk Tryz.prog 213 Tryz.f213:=⟨Tryz.func213,rfl,rfl,rfl,by kernel_rfl⟩
theorem at214:FnOk Tryz.prog 214 Tryz.f214:=⟨Tryz.func214,rfl,rfl,rfl,by kernel_rfl⟩
theorem at215:FnOk Tryz.prog 215 Tryz.f215:=⟨Tryz.func215,rfl,rfl,rfl,by kernel_rfl⟩
theorem at216:FnOk Tryz.prog 216 Tryz.f216:=⟨Tryz.func216,rfl,rfl,rfl,by kernel_rfl⟩
theorem at217:FnOk Tryz.prog 217 Tryz.f217:=⟨Tryz.func217,rfl,rfl,rfl,by kernel_rfl⟩
theorem at218:FnOk Tryz.prog 218 Tryz.f218:=⟨Tryz.func218,rfl,rfl,rfl,by kernel_rfl⟩
theorem at219:FnOk Tryz.prog 219 Tryz.f219:=⟨Tryz.func219,rfl,rfl,rfl,by kernel_rfl⟩
theorem at220:FnOk Tryz.prog 220 Tryz.f220:=⟨Tryz.func220,rfl,rfl,rfl,by kernel_rfl⟩
theorem at221:FnOk Tryz.prog 221 Tryz.f221:=⟨Tryz.func221,rfl,rfl,rfl,by kernel_rfl⟩
theorem at222:FnOk Tryz.prog 222 Tryz.f222:=⟨Tryz.func222,rfl,rfl,rfl,by kernel_rfl⟩
theorem at223:FnOk Tryz.prog 223 Tryz.f223:=⟨Tryz.func223,rfl,rfl,rfl,by kernel_rfl⟩
theorem at224:FnOk Tryz.prog 224 Tryz.f224:=⟨Tryz.func224,rfl,rfl,rfl,by kernel_rfl⟩
theorem at225:FnOk Tryz.prog 225 Tryz.f225:=⟨Tryz.func225,rfl,rfl,rfl,by kernel_rfl⟩
theorem at228:FnOk Tryz.prog 228 Tryz.f228:=⟨Tryz.func228,rfl,rfl,rfl,by kernel_rfl⟩
theorem at229:FnOk Tryz.prog 229 Tryz.f229:=⟨Tryz.func229,rfl,rfl,rfl,by kernel_rfl⟩
theorem at230:FnOk Tryz.prog 230 Tryz.f230:=⟨Tryz.func230,rfl,rfl,rfl,by kernel_rfl⟩
theorem at231:FnOk Tryz.prog 231 Tryz.f231:=⟨Tryz.func231,rfl,rfl,rfl,by kernel_rfl⟩
theorem at232:FnOk Tryz.prog 232 Tryz.f232:=⟨Tryz.func232,rfl,rfl,rfl,by kernel_rfl⟩
theorem at233:FnOk Tryz.prog 233 Tryz.f233:=⟨Tryz.func233,rfl,rfl,rfl,by kernel_rfl⟩
theorem at234:FnOk Tryz.prog 234 Tryz.f234:=⟨Tryz.func234,rfl,rfl,rfl,by kernel_rfl⟩
theorem at235:FnOk Tryz.prog 235 Tryz.f235:=⟨Tryz.func235,rfl,rfl,rfl,by kernel_rfl⟩
theorem at239:FnOk Tryz.prog 239 Tryz.f239:=⟨Tryz.func239,rfl,rfl,rfl,by kernel_rfl⟩
theorem at240:FnOk Tryz.prog 240 Tryz.f240:=⟨Tryz.func240,rfl,rfl,rfl,by kernel_rfl⟩
theorem at241:FnOk Tryz.prog 241 Tryz.f241:=⟨Tryz.func241,rfl,rfl,rfl,by kernel_rfl⟩
theorem at242:FnOk Tryz.prog 242 Tryz.f242:=⟨Tryz.func242,rfl,rfl,rfl,by kernel_rfl⟩
theorem at243:FnOk Tryz.prog 243 Tryz.f243:=⟨Tryz.func243,rfl,rfl,rfl,by kernel_rfl⟩
theorem at244:FnOk Tryz.prog 244 Tryz.f244:=⟨Tryz.func244,rfl,rfl,rfl,by kernel_rfl⟩
theorem at245:FnOk Tryz.prog 245 Tryz.f245:=⟨Tryz.func245,rfl,rfl,rfl,by kernel_rfl⟩
theorem at254:FnOk Tryz.prog 254 Tryz.f254:=⟨Tryz.func254,rfl,rfl,rfl,by kernel_rfl⟩
end Go.Proofs.YtkaakbpeegpnkaaGreatDoor
