/- The table of the types, printed by program. Where each function lies in the program, printed by program; no condition. -/
import Derived.Test.YtekfkdddadcalaaGreatDoorProg
import Derived.Test.YtekfkdddadcalaaGreatDoorPositionLaterQ7
set_option maxRecDepth 100000
set_option maxHeartbeats 4000000
namespace Go.Proofs.YtekfkdddadcalaaGreatDoor
open Go Go.SX
def ti3:TI:={ row:=false,size:=1,zero:=#[.int .i64 0],kind:=4,ik:=.i64 }
def ti4:TI:={ row:=false,size:=1,zero:=#[.bool false],kind:=5 }
def ti5:TI:={ row:=false,size:=1,zero:=#[.int .u8 0],kind:=4,ik:=.u8 }
def ti7:TI:={ row:=true,size:=4,zero:=#[.int .i64 0,.int .i64 0,.bool false,.int .u8 0],kind:=1,fields:=[(0,2),(1,3),(2,4),(3,6)] }
def ti8:TI:={ row:=true,size:=4,zero:=#[.int .i64 0,.int .i64 0,.bool false,.int .u8 0],kind:=1,fields:=[(0,2),(1,3),(2,4),(3,6)] }
def ti9:TI:={ row:=false,size:=1,zero:=#[.string ByteArray.empty],kind:=0 }
def ti13:TI:={ row:=true,size:=2,zero:=#[.string ByteArray.empty,.int .u64 0],kind:=1,fields:=[(0,9),(1,12)] }
def ti14:TI:={ row:=true,size:=2,zero:=#[.string ByteArray.empty,.int .u64 0],kind:=1,fields:=[(0,9),(1,12)] }
def ti18:TI:={ row:=true,size:=1,zero:=#[.pointer none],kind:=1,fields:=[(0,17)] }
def ti19:TI:={ row:=true,size:=1,zero:=#[.pointer none],kind:=1,fields:=[(0,17)] }
def ti24:TI:={ row:=true,size:=2,zero:=#[.slice none 0 0,.int .i64 0],kind:=1,fields:=[(0,22),(1,3)] }
def ti25:TI:={ row:=true,size:=2,zero:=#[.slice none 0 0,.int .i64 0],kind:=1,fields:=[(0,22),(1,3)] }
def ti30:TI:={ row:=true,size:=10,zero:=#[.int .i64 0,.string ByteArray.empty,.int .i64 0,.int .i64 0,.string ByteArray.empty,.int .i64 0,.int .i64 0,.string ByteArray.empty,.int .i64 0,.bool false],kind:=1,fields:=[(0,3),(1,9),(2,3),(3,3),(4,9),(5,3),(6,3),(7,9),(8,3),(9,4)] }
def ti31:TI:={ row:=true,size:=10,zero:=#[.int .i64 0,.string ByteArray.empty,.int .i64 0,.int .i64 0,.string ByteArray.empty,.int .i64 0,.int .i64 0,.string ByteArray.empty,.int .i64 0,.bool false],kind:=1,fields:=[(0,3),(1,9),(2,3),(3,3),(4,9),(5,3),(6,3),(7,9),(8,3),(9,4)] }
def ti38:TI:={ row:=false,size:=1,zero:=#[.slice none 0 0],kind:=3,elem:=49 }
def ti39:TI:={ row:=true,size:=3,zero:=#[.slice none 0 0,.slice none 0 0,.slice none 0 0],kind:=1,fields:=[(0,37),(1,38),(2,38)] }
def ti40:TI:={ row:=true,size:=3,zero:=#[.slice none 0 0,.slice none 0 0,.slice none 0 0],kind:=1,fields:=[(0,37),(1,38),(2,38)] }
def ti48:TI:={ row:=true,size:=3,zero:=#[.string ByteArray.empty,.int .i64 0,.int .i64 0],kind:=1,fields:=[(0,9),(1,3),(2,3)] }
def ti49:TI:={ row:=true,size:=3,zero:=#[.string ByteArray.empty,.int .i64 0,.int .i64 0],kind:=1,fields:=[(0,9),(1,3),(2,3)] }
def ti54:TI:={ row:=false,size:=1,zero:=#[.int .u32 0],kind:=4,ik:=.u32 }
def ti55:TI:={ row:=true,size:=32,zero:=(Array.replicate 32 (.int .u32 0)),kind:=2,len:=32,elem:=54 }
def ti56:TI:={ row:=true,size:=33,zero:=#[.bool false,.int .u32 0,.int .u32 0,.int .u32 0,.int .u32 0,.int .u32 0,.int .u32 0,.int .u32 0,.int .u32 0,.int .u32 0,.int .u32 0,.int .u32 0,.int .u32 0,.int .u32 0,.int .u32 0,.int .u32 0,.int .u32 0,.int .u32 0,.int .u32 0,.int .u32 0,.int .u32 0,.int .u32 0,.int .u32 0,.int .u32 0,.int .u32 0,.int .u32 0,.int .u32 0,.int .u32 0,.int .u32 0,.int .u32 0,.int .u32 0,.int .u32 0,.int .u32 0],kind:=1,fields:=[(0,4),(1,55)] }
def ti57:TI:={ row:=true,size:=33,zero:=#[.bool false,.int .u32 0,.int .u32 0,.int .u32 0,.int .u32 0,.int .u32 0,.int .u32 0,.int .u32 0,.int .u32 0,.int .u32 0,.int .u32 0,.int .u32 0,.int .u32 0,.int .u32 0,.int .u32 0,.int .u32 0,.int .u32 0,.int .u32 0,.int .u32 0,.int .u32 0,.int .u32 0,.int .u32 0,.int .u32 0,.int .u32 0,.int .u32 0,.int .u32 0,.int .u32 0,.int .u32 0,.int .u32 0,.int .u32 0,.int .u32 0,.int .u32 0,.int .u32 0],kind:=1,fields:=[(0,4),(1,55)] }
def ti58:TI:={ row:=true,size:=66,zero:=#[.bool false,.int .u32 0,.int .u32 0,.int .u32 0,.int .u32 0,.int .u32 0,.int .u32 0,.int .u32 0,.int .u32 0,.int .u32 0,.int .u32 0,.int .u32 0,.int .u32 0,.int .u32 0,.int .u32 0,.int .u32 0,.int .u32 0,.int .u32 0,.int .u32 0,.int .u32 0,.int .u32 0,.int .u32 0,.int .u32 0,.int .u32 0,.int .u32 0,.int .u32 0,.int .u32 0,.int .u32 0,.int .u32 0,.int .u32 0,.int .u32 0,.int .u32 0,.int .u32 0,.bool false,.int .u32 0,.int .u32 0,.int .u32 0,.int .u32 0,.int .u32 0,.int .u32 0,.int .u32 0,.int .u32 0,.int .u32 0,.int .u32 0,.int .u32 0,.int .u32 0,.int .u32 0,.int .u32 0,.int .u32 0,.int .u32 0,.int .u32 0,.int .u32 0,.int .u32 0,.int .u32 0,.int .u32 0,.int .u32 0,.int .u32 0,.int .u32 0,.int .u32 0,.int .u32 0,.int .u32 0,.int .u32 0,.int .u32 0,.int .u32 0,.int .u32 0,.int .u32 0],kind:=1,fields:=[(0,57),(33,57)] }
def ti59:TI:={ row:=true,size:=66,zero:=#[.bool false,.int .u32 0,.int .u32 0,.int .u32 0,.int .u32 0,.int .u32 0,.int .u32 0,.int .u32 0,.int .u32 0,.int .u32 0,.int .u32 0,.int .u32 0,.int .u32 0,.int .u32 0,.int .u32 0,.int .u32 0,.int .u32 0,.int .u32 0,.int .u32 0,.int .u32 0,.int .u32 0,.int .u32 0,.int .u32 0,.int .u32 0,.int .u32 0,.int .u32 0,.int .u32 0,.int .u32 0,.int .u32 0,.int .u32 0,.int .u32 0,.int .u32 0,.int .u32 0,.bool false,.int .u32 0,.int .u32 0,.int .u32 0,.int .u32 0,.int .u32 0,.int .u32 0,.int .u32 0,.int .u32 0,.int .u32 0,.int .u32 0,.int .u32 0,.int .u32 0,.int .u32 0,.int .u32 0,.int .u32 0,.int .u32 0,.int .u32 0,.int .u32 0,.int .u32 0,.int .u32 0,.int .u32 0,.int .u32 0,.int .u32 0,.int .u32 0,.int .u32 0,.int .u32 0,.int .u32 0,.int .u32 0,.int .u32 0,.int .u32 0,.int .u32 0,.int .u32 0],kind:=1,fields:=[(0,57),(33,57)] }
def ti60:TI:={ row:=true,size:=76,zero:=#[.int .i64 0,.string ByteArray.empty,.string ByteArray.empty,.string ByteArray.empty,.int .i64 0,.int .i64 0,.int .i64 0,.bool false,.int .u32 0,.int .u32 0,.int .u32 0,.int .u32 0,.int .u32 0,.int .u32 0,.int .u32 0,.int .u32 0,.int .u32 0,.int .u32 0,.int .u32 0,.int .u32 0,.int .u32 0,.int .u32 0,.int .u32 0,.int .u32 0,.int .u32 0,.int .u32 0,.int .u32 0,.int .u32 0,.int .u32 0,.int .u32 0,.int .u32 0,.int .u32 0,.int .u32 0,.int .u32 0,.int .u32 0,.int .u32 0,.int .u32 0,.int .u32 0,.int .u32 0,.int .u32 0,.bool false,.int .u32 0,.int .u32 0,.int .u32 0,.int .u32 0,.int .u32 0,.int .u32 0,.int .u32 0,.int .u32 0,.int .u32 0,.int .u32 0,.int .u32 0,.int .u32 0,.int .u32 0,.int .u32 0,.int .u32 0,.int .u32 0,.int .u32 0,.int .u32 0,.int .u32 0,.int .u32 0,.int .u32 0,.int .u32 0,.int .u32 0,.int .u32 0,.int .u32 0,.int .u32 0,.int .u32 0,.int .u32 0,.int .u32 0,.int .u32 0,.int .u32 0,.int .u32 0,.string ByteArray.empty,.int .i64 0,.bool false],kind:=1,fields:=[(0,3),(1,9),(2,9),(3,9),(4,3),(5,3),(6,3),(7,59),(73,9),(74,3),(75,4)] }
def ti61:TI:={ row:=true,size:=76,zero:=#[.int .i64 0,.string ByteArray.empty,.string ByteArray.empty,.string ByteArray.empty,.int .i64 0,.int .i64 0,.int .i64 0,.bool false,.int .u32 0,.int .u32 0,.int .u32 0,.int .u32 0,.int .u32 0,.int .u32 0,.int .u32 0,.int .u32 0,.int .u32 0,.int .u32 0,.int .u32 0,.int .u32 0,.int .u32 0,.int .u32 0,.int .u32 0,.int .u32 0,.int .u32 0,.int .u32 0,.int .u32 0,.int .u32 0,.int .u32 0,.int .u32 0,.int .u32 0,.int .u32 0,.int .u32 0,.int .u32 0,.int .u32 0,.int .u32 0,.int .u32 0,.int .u32 0,.int .u32 0,.int .u32 0,.bool false,.int .u32 0,.int .u32 0,.int .u32 0,.int .u32 0,.int .u32 0,.int .u32 0,.int .u32 0,.int .u32 0,.int .u32 0,.int .u32 0,.int .u32 0,.int .u32 0,.int .u32 0,.int .u32 0,.int .u32 0,.int .u32 0,.int .u32 0,.int .u32 0,.int .u32 0,.int .u32 0,.int .u32 0,.int .u32 0,.int .u32 0,.int .u32 0,.int .u32 0,.int .u32 0,.int .u32 0,.int .u32 0,.int .u32 0,.int .u32 0,.int .u32 0,.int .u32 0,.string ByteArray.empty,.int .i64 0,.bool false],kind:=1,fields:=[(0,3),(1,9),(2,9),(3,9),(4,3),(5,3),(6,3),(7,59),(73,9),(74,3),(75,4)] }
def ti65:TI:={ row:=true,size:=2,zero:=#[.string ByteArray.empty,.int .i64 0],kind:=1,fields:=[(0,9),(1,3)] }
def ti66:TI:={ row:=true,size:=2,zero:=#[.string ByteArray.empty,.int .i64 0],kind:=1,fields:=[(0,9),(1,3)] }
def ti84:TI:={ row:=false,size:=1,zero:=#[.nilFunc],kind:=0 }
def ti85:TI:={ row:=false,size:=1,zero:=#[.slice none 0 0],kind:=3,elem:=136 }
def ti86:TI:={ row:=true,size:=2,zero:=#[.nilFunc,.slice none 0 0],kind:=1,fields:=[(0,84),(1,85)] }
def ti87:TI:={ row:=true,size:=2,zero:=#[.nilFunc,.slice none 0 0],kind:=1,fields:=[(0,84),(1,85)] }
def ti88:TI:={ row:=false,size:=1,zero:=#[.nilFunc],kind:=0 }
def ti89:TI:={ row:=false,size:=1,zero:=#[.slice none 0 0],kind:=3,elem:=183 }
def ti90:TI:={ row:=true,size:=2,zero:=#[.nilFunc,.slice none 0 0],kind:=1,fields:=[(0,88),(1,89)] }
def ti91:TI:={ row:=true,size:=2,zero:=#[.nilFunc,.slice none 0 0],kind:=1,fields:=[(0,88),(1,89)] }
def ti92:TI:={ row:=true,size:=7,zero:=#[.nilFunc,.slice none 0 0,.nilFunc,.slice none 0 0,.nilFunc,.slice none 0 0,.int .i64 0],kind:=1,fields:=[(0,87),(2,91),(4,91),(6,3)] }
def ti93:TI:={ row:=true,size:=7,zero:=#[.nilFunc,.slice none 0 0,.nilFunc,.slice none 0 0,.nilFunc,.slice none 0 0,.int .i64 0],kind:=1,fields:=[(0,87),(2,91),(4,91),(6,3)] }
def ti107:TI:={ row:=true,size:=2,zero:=#[.string ByteArray.empty,.int .i64 0],kind:=1,fields:=[(0,9),(1,3)] }
def ti108:TI:={ row:=true,size:=2,zero:=#[.string ByteArray.empty,.int .i64 0],kind:=1,fields:=[(0,9),(1,3)] }
def ti128:TI:={ row:=true,size:=3,zero:=#[.string ByteArray.empty,.int .i64 0,.int .i64 0],kind:=1,fields:=[(0,9),(1,3),(2,3)] }
def ti129:TI:={ row:=true,size:=3,zero:=#[.string ByteArray.empty,.int .i64 0,.int .i64 0],kind:=1,fields:=[(0,9),(1,3),(2,3)] }
def ti135:TI:={ row:=true,size:=2,zero:=#[.string ByteArray.empty,.int .i64 0],kind:=1,fields:=[(0,9),(1,3)] }
def ti136:TI:={ row:=true,size:=2,zero:=#[.string ByteArray.empty,.int .i64 0],kind:=1,fields:=[(0,9),(1,3)] }
def ti142:TI:={ row:=true,size:=3,zero:=#[.string ByteArray.empty,.int .i64 0,.bool false],kind:=1,fields:=[(0,9),(1,3),(2,4)] }
def ti143:TI:={ row:=true,size:=3,zero:=#[.string ByteArray.empty,.int .i64 0,.bool false],kind:=1,fields:=[(0,9),(1,3),(2,4)] }
def ti157:TI:={ row:=true,size:=76,zero:=#[.int .i64 0,.string ByteArray.empty,.string ByteArray.empty,.string ByteArray.empty,.int .i64 0,.int .i64 0,.int .i64 0,.bool false,.int .u32 0,.int .u32 0,.int .u32 0,.int .u32 0,.int .u32 0,.int .u32 0,.int .u32 0,.int .u32 0,.int .u32 0,.int .u32 0,.int .u32 0,.int .u32 0,.int .u32 0,.int .u32 0,.int .u32 0,.int .u32 0,.int .u32 0,.int .u32 0,.int .u32 0,.int .u32 0,.int .u32 0,.int .u32 0,.int .u32 0,.int .u32 0,.int .u32 0,.int .u32 0,.int .u32 0,.int .u32 0,.int .u32 0,.int .u32 0,.int .u32 0,.int .u32 0,.bool false,.int .u32 0,.int .u32 0,.int .u32 0,.int .u32 0,.int .u32 0,.int .u32 0,.int .u32 0,.int .u32 0,.int .u32 0,.int .u32 0,.int .u32 0,.int .u32 0,.int .u32 0,.int .u32 0,.int .u32 0,.int .u32 0,.int .u32 0,.int .u32 0,.int .u32 0,.int .u32 0,.int .u32 0,.int .u32 0,.int .u32 0,.int .u32 0,.int .u32 0,.int .u32 0,.int .u32 0,.int .u32 0,.int .u32 0,.int .u32 0,.int .u32 0,.int .u32 0,.string ByteArray.empty,.int .i64 0,.bool false],kind:=1,fields:=[(0,61)] }
def ti158:TI:={ row:=true,size:=76,zero:=#[.int .i64 0,.string ByteArray.empty,.string ByteArray.empty,.string ByteArray.empty,.int .i64 0,.int .i64 0,.int .i64 0,.bool false,.int .u32 0,.int .u32 0,.int .u32 0,.int .u32 0,.int .u32 0,.int .u32 0,.int .u32 0,.int .u32 0,.int .u32 0,.int .u32 0,.int .u32 0,.int .u32 0,.int .u32 0,.int .u32 0,.int .u32 0,.int .u32 0,.int .u32 0,.int .u32 0,.int .u32 0,.int .u32 0,.int .u32 0,.int .u32 0,.int .u32 0,.int .u32 0,.int .u32 0,.int .u32 0,.int .u32 0,.int .u32 0,.int .u32 0,.int .u32 0,.int .u32 0,.int .u32 0,.bool false,.int .u32 0,.int .u32 0,.int .u32 0,.int .u32 0,.int .u32 0,.int .u32 0,.int .u32 0,.int .u32 0,.int .u32 0,.int .u32 0,.int .u32 0,.int .u32 0,.int .u32 0,.int .u32 0,.int .u32 0,.int .u32 0,.int .u32 0,.int .u32 0,.int .u32 0,.int .u32 0,.int .u32 0,.int .u32 0,.int .u32 0,.int .u32 0,.int .u32 0,.int .u32 0,.int .u32 0,.int .u32 0,.int .u32 0,.int .u32 0,.int .u32 0,.int .u32 0,.string ByteArray.empty,.int .i64 0,.bool false],kind:=1,fields:=[(0,61)] }
def ti166:TI:={ row:=true,size:=76,zero:=#[.int .i64 0,.string ByteArray.empty,.string ByteArray.empty,.string ByteArray.empty,.int .i64 0,.int .i64 0,.int .i64 0,.bool false,.int .u32 0,.int .u32 0,.int .u32 0,.int .u32 0,.int .u32 0,.int .u32 0,.int .u32 0,.int .u32 0,.int .u32 0,.int .u32 0,.int .u32 0,.int .u32 0,.int .u32 0,.int .u32 0,.int .u32 0,.int .u32 0,.int .u32 0,.int .u32 0,.int .u32 0,.int .u32 0,.int .u32 0,.int .u32 0,.int .u32 0,.int .u32 0,.int .u32 0,.int .u32 0,.int .u32 0,.int .u32 0,.int .u32 0,.int .u32 0,.int .u32 0,.int .u32 0,.bool false,.int .u32 0,.int .u32 0,.int .u32 0,.int .u32 0,.int .u32 0,.int .u32 0,.int .u32 0,.int .u32 0,.int .u32 0,.int .u32 0,.int .u32 0,.int .u32 0,.int .u32 0,.int .u32 0,.int .u32 0,.int .u32 0,.int .u32 0,.int .u32 0,.int .u32 0,.int .u32 0,.int .u32 0,.int .u32 0,.int .u32 0,.int .u32 0,.int .u32 0,.int .u32 0,.int .u32 0,.int .u32 0,.int .u32 0,.int .u32 0,.int .u32 0,.int .u32 0,.string ByteArray.empty,.int .i64 0,.bool false],kind:=1,fields:=[(0,158)] }
def ti167:TI:={ row:=true,size:=76,zero:=#[.int .i64 0,.string ByteArray.empty,.string ByteArray.empty,.string ByteArray.empty,.int .i64 0,.int .i64 0,.int .i64 0,.bool false,.int .u32 0,.int .u32 0,.int .u32 0,.int .u32 0,.int .u32 0,.int .u32 0,.int .u32 0,.int .u32 0,.int .u32 0,.int .u32 0,.int .u32 0,.int .u32 0,.int .u32 0,.int .u32 0,.int .u32 0,.int .u32 0,.int .u32 0,.int .u32 0,.int .u32 0,.int .u32 0,.int .u32 0,.int .u32 0,.int .u32 0,.int .u32 0,.int .u32 0,.int .u32 0,.int .u32 0,.int .u32 0,.int .u32 0,.int .u32 0,.int .u32 0,.int .u32 0,.bool false,.int .u32 0,.int .u32 0,.int .u32 0,.int .u32 0,.int .u32 0,.int .u32 0,.int .u32 0,.int .u32 0,.int .u32 0,.int .u32 0,.int .u32 0,.int .u32 0,.int .u32 0,.int .u32 0,.int .u32 0,.int .u32 0,.int .u32 0,.int .u32 0,.int .u32 0,.int .u32 0,.int .u32 0,.int .u32 0,.int .u32 0,.int .u32 0,.int .u32 0,.int .u32 0,.int .u32 0,.int .u32 0,.int .u32 0,.int .u32 0,.int .u32 0,.int .u32 0,.string ByteArray.empty,.int .i64 0,.bool false],kind:=1,fields:=[(0,158)] }
def ti182:TI:={ row:=true,size:=3,zero:=#[.string ByteArray.empty,.int .i64 0,.int .i64 0],kind:=1,fields:=[(0,108),(2,3)] }
def ti183:TI:={ row:=true,size:=3,zero:=#[.string ByteArray.empty,.int .i64 0,.int .i64 0],kind:=1,fields:=[(0,108),(2,3)] }
def ti200:TI:={ row:=true,size:=32,zero:=(Array.replicate 32 (.int .u32 0)),kind:=2,len:=32,elem:=54 }
def ti222:TI:={ row:=true,size:=64,zero:=(Array.replicate 64 (.int .u32 0)),kind:=2,len:=64,elem:=54 }
def ti247:TI:={ row:=true,size:=35,zero:=#[.bool false,.int .u32 0,.int .u32 0,.int .u32 0,.int .u32 0,.int .u32 0,.int .u32 0,.int .u32 0,.int .u32 0,.int .u32 0,.int .u32 0,.int .u32 0,.int .u32 0,.int .u32 0,.int .u32 0,.int .u32 0,.int .u32 0,.int .u32 0,.int .u32 0,.int .u32 0,.int .u32 0,.int .u32 0,.int .u32 0,.int .u32 0,.int .u32 0,.int .u32 0,.int .u32 0,.int .u32 0,.int .u32 0,.int .u32 0,.int .u32 0,.int .u32 0,.int .u32 0,.int .i64 0,.bool false],kind:=1,fields:=[(0,57),(33,3),(34,4)] }
def ti248:TI:={ row:=true,size:=35,zero:=#[.bool false,.int .u32 0,.int .u32 0,.int .u32 0,.int .u32 0,.int .u32 0,.int .u32 0,.int .u32 0,.int .u32 0,.int .u32 0,.int .u32 0,.int .u32 0,.int .u32 0,.int .u32 0,.int .u32 0,.int .u32 0,.int .u32 0,.int .u32 0,.int .u32 0,.int .u32 0,.int .u32 0,.int .u32 0,.int .u32 0,.int .u32 0,.int .u32 0,.int .u32 0,.int .u32 0,.int .u32 0,.int .u32 0,.int .u32 0,.int .u32 0,.int .u32 0,.int .u32 0,.int .i64 0,.bool false],kind:=1,fields:=[(0,57),(33,3),(34,4)] }
def ti272:TI:={ row:=true,size:=33,zero:=(Array.replicate 33 (.int .u32 0)),kind:=2,len:=33,elem:=54 }
def ti289:TI:={ row:=true,size:=256,zero:=(Array.replicate 256 (.bool false)),kind:=2,len:=256,elem:=4 }
def ti290:TI:={ row:=true,size:=256,zero:=(Array.replicate 256 (.bool false)),kind:=2,len:=256,elem:=4 }
def ti299:TI:={ row:=true,size:=2,zero:=#[.pointer none,.slice none 0 0],kind:=1,fields:=[(0,298),(1,64)] }
def ti300:TI:={ row:=true,size:=2,zero:=#[.pointer none,.slice none 0 0],kind:=1,fields:=[(0,298),(1,64)] }
def ti319:TI:={ row:=true,size:=256,zero:=(Array.replicate 256 (.int .u8 0)),kind:=2,len:=256,elem:=5 }
def ti320:TI:={ row:=true,size:=2,zero:=#[.int .u8 0,.int .u8 0],kind:=1,fields:=[(0,5),(1,5)] }
def ti321:TI:={ row:=true,size:=2,zero:=#[.int .u8 0,.int .u8 0],kind:=1,fields:=[(0,5),(1,5)] }
def ti322:TI:={ row:=true,size:=32,zero:=(Array.replicate 32 (.int .u8 0)),kind:=2,len:=16,elem:=321 }
def ti324:TI:={ row:=true,size:=4,zero:=#[.pointer none,.pointer none,.pointer none,.string ByteArray.empty],kind:=1,fields:=[(0,17),(1,17),(2,17),(3,9)] }
def ti325:TI:={ row:=true,size:=4,zero:=#[.pointer none,.pointer none,.pointer none,.string ByteArray.empty],kind:=1,fields:=[(0,17),(1,17),(2,17),(3,9)] }
def ti326:TI:={ row:=true,size:=0,zero:=#[],kind:=2,len:=0,elem:=16 }
def ti327:TI:={ row:=true,size:=0,zero:=#[],kind:=1,fields:=[(0,326)] }
def ti328:TI:={ row:=true,size:=0,zero:=#[],kind:=1,fields:=[(0,326)] }
def ti334:TI:={ row:=true,size:=11,zero:=#[.int .u64 0,.int .u64 0,.int .u32 0,.int .u8 0,.int .u8 0,.int .u8 0,.int .u8 0,.nilFunc,.pointer none,.int .i32 0,.int .i32 0],kind:=1,fields:=[(0,12),(1,12),(2,54),(3,329),(4,5),(5,5),(6,330),(7,331),(8,312),(9,332),(10,333)] }
def ti335:TI:={ row:=true,size:=11,zero:=#[.int .u64 0,.int .u64 0,.int .u32 0,.int .u8 0,.int .u8 0,.int .u8 0,.int .u8 0,.nilFunc,.pointer none,.int .i32 0,.int .i32 0],kind:=1,fields:=[(0,12),(1,12),(2,54),(3,329),(4,5),(5,5),(6,330),(7,331),(8,312),(9,332),(10,333)] }
def ti337:TI:={ row:=true,size:=1,zero:=#[.string ByteArray.empty],kind:=1,fields:=[(0,9)] }
def ti338:TI:={ row:=true,size:=1,zero:=#[.string ByteArray.empty],kind:=1,fields:=[(0,9)] }
def tt_0:TypeId→Option TI
 | 1=>some (tV .nilFunc)
 | 2=>some (tI .i64)
 | 3=>some ti3
 | 4=>some ti4
 | 5=>some ti5
 | 6=>some (tI .u8)
 | 7=>some ti7
 | 8=>some ti8
 | 9=>some ti9
 | 10=>some (tV (.string ByteArray.empty))
 | 11=>some (tV (.string ByteArray.empty))
 | 12=>some (tI .u64)
 | 13=>some ti13
 | 14=>some ti14
 | 15=>some (tV (.pointer none))
 | 16=>some (tV (.pointer none))
 | _=>none
def tt_1:TypeId→Option TI
 | 17=>some (tV (.pointer none))
 | 18=>some ti18
 | 19=>some ti19
 | 20=>some (tV .nilIface)
 | 21=>some (tI .i32)
 | 22=>some (tS 3)
 | 23=>some (tV (.pointer none))
 | 24=>some ti24
 | 25=>some ti25
 | 26=>some (tS 31)
 | 27=>some (tV .nilFunc)
 | 28=>some (tV .nilFunc)
 | 29=>some (tV (.pointer none))
 | 30=>some ti30
 | 31=>some ti31
 | 32=>some (tV .nilFunc)
 | _=>none
def tt_2:TypeId→Option TI
 | 33=>some (tV .nilFunc)
 | 34=>some (tV .nilFunc)
 | 35=>some (tV .nilFunc)
 | 36=>some (tV .nilFunc)
 | 37=>some (tS 66)
 | 38=>some ti38
 | 39=>some ti39
 | 40=>some ti40
 | 41=>some (tI .i64)
 | 43=>some (tV .nilFunc)
 | 45=>some (tV .nilFunc)
 | 46=>some (tS 9)
 | 47=>some (tV .nilFunc)
 | 48=>some ti48
 | 49=>some ti49
 | 50=>some (tV .nilFunc)
 | _=>none
def tt_3:TypeId→Option TI
 | 51=>some (tS 61)
 | 52=>some (tV .nilFunc)
 | 53=>some (tV .nilFunc)
 | 54=>some ti54
 | 55=>some ti55
 | 56=>some ti56
 | 57=>some ti57
 | 58=>some ti58
 | 59=>some ti59
 | 60=>some ti60
 | 61=>some ti61
 | 62=>some (tV .nilFunc)
 | 63=>some (tV .nilFunc)
 | 64=>some (tS 5)
 | 65=>some ti65
 | 66=>some ti66
 | _=>none
def tt_4:TypeId→Option TI
 | 67=>some (tV .nilFunc)
 | 68=>some (tV .nilFunc)
 | 69=>some (tV .nilFunc)
 | 70=>some (tV .nilFunc)
 | 71=>some (tV .nilFunc)
 | 72=>some (tV .nilFunc)
 | 73=>some (tV .nilFunc)
 | 74=>some (tV .nilFunc)
 | 75=>some (tV .nilFunc)
 | 77=>some (tV .nilFunc)
 | 78=>some (tV .nilFunc)
 | 79=>some (tV .nilFunc)
 | 80=>some (tV .nilFunc)
 | 81=>some (tV .nilFunc)
 | 82=>some (tV .nilFunc)
 | 83=>some (tV (.pointer none))
 | _=>none
def tt_5:TypeId→Option TI
 | 84=>some ti84
 | 85=>some ti85
 | 86=>some ti86
 | 87=>some ti87
 | 88=>some ti88
 | 89=>some ti89
 | 90=>some ti90
 | 91=>some ti91
 | 92=>some ti92
 | 93=>some ti93
 | 94=>some (tV .nilFunc)
 | 95=>some (tV .nilFunc)
 | 96=>some (tV .nilFunc)
 | 98=>some (tV .nilFunc)
 | 99=>some (tS 143)
 | 100=>some (tV .nilFunc)
 | _=>none
def tt_6:TypeId→Option TI
 | 101=>some (tV .nilFunc)
 | 102=>some (tV .nilFunc)
 | 103=>some (tV .nilFunc)
 | 104=>some (tV .nilFunc)
 | 105=>some (tV .nilFunc)
 | 106=>some (tS 38)
 | 107=>some ti107
 | 108=>some ti108
 | 109=>some (tV .nilFunc)
 | 110=>some (tV .nilFunc)
 | 111=>some (tV .nilFunc)
 | 112=>some (tV .nilFunc)
 | 113=>some (tV .nilFunc)
 | 114=>some (tV .nilFunc)
 | 115=>some (tV (.pointer none))
 | 116=>some (tV .nilFunc)
 | _=>none
def tt_7:TypeId→Option TI
 | 117=>some (tV .nilFunc)
 | 118=>some (tV .nilFunc)
 | 119=>some (tV .nilFunc)
 | 120=>some (tV .nilFunc)
 | 122=>some (tV .nilFunc)
 | 123=>some (tV .nilFunc)
 | 124=>some (tV .nilFunc)
 | 125=>some (tV .nilFunc)
 | 126=>some (tV .nilFunc)
 | 127=>some (tV .nilFunc)
 | 128=>some ti128
 | 129=>some ti129
 | 131=>some (tV .nilFunc)
 | 132=>some (tV .nilFunc)
 | 133=>some (tV .nilFunc)
 | 134=>some (tV .nilFunc)
 | _=>none
def tt_8:TypeId→Option TI
 | 135=>some ti135
 | 136=>some ti136
 | 138=>some (tV .nilFunc)
 | 139=>some (tV (.map none))
 | 140=>some (tV .nilFunc)
 | 141=>some (tV .nilFunc)
 | 142=>some ti142
 | 143=>some ti143
 | 144=>some (tV .nilFunc)
 | 145=>some (tV .nilFunc)
 | 146=>some (tV .nilFunc)
 | 147=>some (tV .nilFunc)
 | 148=>some (tV .nilFunc)
 | 149=>some (tV .nilFunc)
 | 150=>some (tV .nilFunc)
 | 151=>some (tV .nilFunc)
 | _=>none
def tt_9:TypeId→Option TI
 | 152=>some (tV .nilFunc)
 | 153=>some (tV .nilFunc)
 | 154=>some (tV .nilFunc)
 | 155=>some (tV .nilFunc)
 | 156=>some (tV .nilFunc)
 | 157=>some ti157
 | 158=>some ti158
 | 159=>some (tV .nilFunc)
 | 160=>some (tV .nilFunc)
 | 161=>some (tV .nilFunc)
 | 162=>some (tV .nilFunc)
 | 163=>some (tV (.pointer none))
 | 165=>some (tV .nilFunc)
 | 166=>some ti166
 | 167=>some ti167
 | 169=>some (tV .nilFunc)
 | _=>none
def tt_10:TypeId→Option TI
 | 171=>some (tV .nilFunc)
 | 172=>some (tV .nilFunc)
 | 173=>some (tV .nilFunc)
 | 175=>some (tV .nilFunc)
 | 176=>some (tV .nilFunc)
 | 177=>some (tV .nilFunc)
 | 178=>some (tV .nilFunc)
 | 179=>some (tV (.pointer none))
 | 180=>some (tV .nilFunc)
 | 181=>some (tV .nilFunc)
 | 182=>some ti182
 | 183=>some ti183
 | 184=>some (tV .nilFunc)
 | 185=>some (tV .nilFunc)
 | 186=>some (tV .nilFunc)
 | 187=>some (tI .u64)
 | _=>none
def tt_11:TypeId→Option TI
 | 188=>some (tV .nilFunc)
 | 190=>some (tV .nilFunc)
 | 192=>some (tV .nilFunc)
 | 193=>some (tV .nilFunc)
 | 194=>some (tV .nilFunc)
 | 195=>some (tV .nilFunc)
 | 196=>some (tI .u64)
 | 197=>some (tV .nilFunc)
 | 198=>some (tV .nilFunc)
 | 199=>some (tV .nilFunc)
 | 200=>some ti200
 | 202=>some (tV .nilFunc)
 | 203=>some (tV .nilFunc)
 | 204=>some (tV .nilFunc)
 | 205=>some (tV .nilFunc)
 | 206=>some (tV .nilFunc)
 | _=>none
def tt_12:TypeId→Option TI
 | 207=>some (tV .nilFunc)
 | 208=>some (tV .nilFunc)
 | 209=>some (tV .nilFunc)
 | 210=>some (tV .nilFunc)
 | 211=>some (tV .nilFunc)
 | 212=>some (tV .nilFunc)
 | 213=>some (tV .nilFunc)
 | 214=>some (tI .i64)
 | 216=>some (tV .nilFunc)
 | 217=>some (tV .nilFunc)
 | 218=>some (tV .nilFunc)
 | 219=>some (tV .nilFunc)
 | 220=>some (tV .nilFunc)
 | 221=>some (tV .nilFunc)
 | 222=>some ti222
 | 223=>some (tV .nilFunc)
 | _=>none
def tt_13:TypeId→Option TI
 | 224=>some (tV .nilFunc)
 | 225=>some (tV .nilFunc)
 | 227=>some (tV .nilFunc)
 | 228=>some (tV .nilFunc)
 | 230=>some (tV .nilFunc)
 | 232=>some (tV .nilFunc)
 | 233=>some (tV .nilFunc)
 | 234=>some (tV .nilFunc)
 | 235=>some (tV .nilFunc)
 | 237=>some (tV .nilFunc)
 | 238=>some (tV (.pointer none))
 | 240=>some (tV .nilFunc)
 | 241=>some (tV .nilFunc)
 | 242=>some (tV .nilFunc)
 | 244=>some (tV .nilFunc)
 | 245=>some (tV .nilFunc)
 | _=>none
def tt_14:TypeId→Option TI
 | 246=>some (tV .nilFunc)
 | 247=>some ti247
 | 248=>some ti248
 | 249=>some (tV .nilFunc)
 | 250=>some (tI .u64)
 | 251=>some (tV .nilFunc)
 | 252=>some (tV .nilFunc)
 | 253=>some (tV .nilFunc)
 | 254=>some (tV (.pointer none))
 | 255=>some (tV .nilFunc)
 | 256=>some (tV .nilFunc)
 | 257=>some (tV .nilFunc)
 | 258=>some (tV .nilFunc)
 | 259=>some (tV .nilFunc)
 | 260=>some (tV .nilFunc)
 | 261=>some (tV .nilFunc)
 | _=>none
def tt_15:TypeId→Option TI
 | 262=>some (tV .nilFunc)
 | 264=>some (tV .nilFunc)
 | 265=>some (tV .nilFunc)
 | 267=>some (tV .nilFunc)
 | 268=>some (tV .nilFunc)
 | 269=>some (tS 54)
 | 270=>some (tV .nilFunc)
 | 271=>some (tV .nilFunc)
 | 272=>some ti272
 | 274=>some (tV .nilFunc)
 | 275=>some (tV .nilFunc)
 | 276=>some (tV .nilFunc)
 | 277=>some (tV .nilFunc)
 | 278=>some (tV (.pointer none))
 | 280=>some (tV .nilFunc)
 | 282=>some (tV .nilFunc)
 | _=>none
def tt_16:TypeId→Option TI
 | 283=>some (tV .nilFunc)
 | 285=>some (tV .nilFunc)
 | 286=>some (tV .nilFunc)
 | 287=>some (tV .nilFunc)
 | 288=>some (tV .nilFunc)
 | 289=>some ti289
 | 290=>some ti290
 | 292=>some (tV .nilFunc)
 | 293=>some (tV .nilFunc)
 | 294=>some (tV (.pointer none))
 | 295=>some (tV .nilFunc)
 | 297=>some (tV .nilFunc)
 | 298=>some (tV (.pointer none))
 | 299=>some ti299
 | 300=>some ti300
 | 301=>some (tV .nilFunc)
 | _=>none
def tt_17:TypeId→Option TI
 | 302=>some (tV .nilIface)
 | 303=>some (tV .nilIface)
 | 305=>some (tV .nilFunc)
 | 307=>some (tV .nilFunc)
 | 308=>some (tV .nilFunc)
 | 309=>some (tV .nilFunc)
 | 311=>some (tV .nilFunc)
 | 312=>some (tV (.pointer none))
 | 313=>some (tV .nilFunc)
 | 315=>some (tV .nilFunc)
 | 316=>some (tV .nilFunc)
 | 317=>some (tV .nilFunc)
 | 318=>some (tV .nilFunc)
 | 319=>some ti319
 | 320=>some ti320
 | 321=>some ti321
 | _=>none
def tt_18:TypeId→Option TI
 | 322=>some ti322
 | 323=>some (tV (.pointer none))
 | 324=>some ti324
 | 325=>some ti325
 | 326=>some ti326
 | 327=>some ti327
 | 328=>some ti328
 | 329=>some (tI .u8)
 | 330=>some (tI .u8)
 | 331=>some (tV .nilFunc)
 | 332=>some (tI .i32)
 | 333=>some (tI .i32)
 | 334=>some ti334
 | 335=>some ti335
 | 336=>some (tV .nilFunc)
 | 337=>some ti337
 | _=>none
def tt_19:TypeId→Option TI
 | 338=>some ti338
 | _=>none
def tt (ty:TypeId):Option TI :=
 if Nat.ble 339 ty then none else
 if Nat.ble ty 16 then tt_0 ty else
 if Nat.ble ty 32 then tt_1 ty else
 if Nat.ble ty 50 then tt_2 ty else
 if Nat.ble ty 66 then tt_3 ty else
 if Nat.ble ty 83 then tt_4 ty else
 if Nat.ble ty 100 then tt_5 ty else
 if Nat.ble ty 116 then tt_6 ty else
 if Nat.ble ty 134 then tt_7 ty else
 if Nat.ble ty 151 then tt_8 ty else
 if Nat.ble ty 169 then tt_9 ty else
 if Nat.ble ty 187 then tt_10 ty else
 if Nat.ble ty 206 then tt_11 ty else
 if Nat.ble ty 223 then tt_12 ty else
 if Nat.ble ty 245 then tt_13 ty else
 if Nat.ble ty 261 then tt_14 ty else
 if Nat.ble ty 282 then tt_15 ty else
 if Nat.ble ty 301 then tt_16 ty else
 if Nat.ble ty 321 then tt_17 ty else
 if Nat.ble ty 337 then tt_18 ty else
 tt_19 ty
theorem tt_ok:TTok Tryz.prog tt:=tt_of 339 (fun _ h=>if_pos (Nat.ble_eq_true_of_le h)) (by kernel_rfl)
theorem tok3:TIok Tryz.prog 3 ti3:=tt_ok 3 _ rfl
theorem tok4:TIok Tryz.prog 4 ti4:=tt_ok 4 _ rfl
theorem tok9:TIok Tryz.prog 9 ti9:=tt_ok 9 _ rfl
theorem tok54:TIok Tryz.prog 54 ti54:=tt_ok 54 _ rfl
theorem tok55:TIok Tryz.prog 55 ti55:=tt_ok 55 _ rfl
theorem tok57:TIok Tryz.prog 57 ti57:=tt_ok 57 _ rfl
theorem tok59:TIok Tryz.prog 59 ti59:=tt_ok 59 _ rfl
theorem tok136:TIok Tryz.prog 136 ti136:=tt_ok 136 _ rfl
theorem tok183:TIok Tryz.prog 183 ti183:=tt_ok 183 _ rfl
theorem mixed:Tryz.prog.follows .mixedOrders=true:=by kernel_rfl
set_option maxRecDepth 100000
theorem at5:FnOk Tryz.prog 5 Tryz.f5:=⟨Tryz.func5,rfl,rfl,rfl,by kernel_rfl⟩
theorem at11:FnOk Tryz.prog 11 Tryz.f11:=⟨Tryz.func11,rfl,rfl,rfl,by kernel_rfl⟩
theorem at12:FnOk Tryz.prog 12 Tryz.f12:=⟨Tryz.func12,rfl,rfl,rfl,by kernel_rfl⟩
theorem at13:FnOk Tryz.prog 13 Tryz.f13:=⟨Tryz.func13,rfl,rfl,rfl,by kernel_rfl⟩
theorem at14:FnOk Tryz.prog 14 Tryz.f14:=⟨Tryz.func14,rfl,rfl,rfl,by kernel_rfl⟩
theorem at16:FnOk Tryz.prog 16 Tryz.f16:=⟨Tryz.func16,rfl,rfl,rfl,by kernel_rfl⟩
theorem at17:FnOk Tryz.prog 17 Tryz.f17:=⟨Tryz.func17,rfl,rfl,rfl,by kernel_rfl⟩
theorem at18:FnOk Tryz.prog 18 Tryz.f18:=⟨Tryz.func18,rfl,rfl,rfl,by kernel_rfl⟩
theorem at19:FnOk Tryz.prog 19 Tryz.f19:=⟨Tryz.func19,rfl,rfl,rfl,by kernel_rfl⟩
theorem at20:FnOk Tryz.prog 20 Tryz.f20:=⟨Tryz.func20,rfl,rfl,rfl,by kernel_rfl⟩
theorem at21:FnOk Tryz.prog 21 Tryz.f21:=⟨Tryz.func21,rfl,rfl,rfl,by kernel_rfl⟩
theorem at22:FnOk Tryz.prog 22 Tryz.f22:=⟨Tryz.func22,rfl,rfl,rfl,by kernel_rfl⟩
theorem at23:FnOk Tryz.prog 23 Tryz.f23:=⟨Tryz.func23,rfl,rfl,rfl,by kernel_rfl⟩
theorem at24:FnOk Tryz.prog 24 Tryz.f24:=⟨Tryz.func24,rfl,rfl,rfl,by kernel_rfl⟩
theorem at30:FnOk Tryz.prog 30 Tryz.f30:=⟨Tryz.func30,rfl,rfl,rfl,by kernel_rfl⟩
theorem at33:FnOk Tryz.prog 33 Tryz.f33:=⟨Tryz.func33,rfl,rfl,rfl,by kernel_rfl⟩
theorem at36:FnOk Tryz.prog 36 Tryz.f36:=⟨Tryz.func36,rfl,rfl,rfl,by kernel_rfl⟩
theorem at37:FnOk Tryz.prog 37 Tryz.f37:=⟨Tryz.func37,rfl,rfl,rfl,by kernel_rfl⟩
theorem at38:FnOk Tryz.prog 38 Tryz.f38:=⟨Tryz.func38,rfl,rfl,rfl,by kernel_rfl⟩
theorem at39:FnOk Tryz.prog 39 Tryz.f39:=⟨Tryz.func39,rfl,rfl,rfl,by kernel_rfl⟩
theorem at40:FnOk Tryz.prog 40 Tryz.f40:=⟨Tryz.func40,rfl,rfl,rfl,by kernel_rfl⟩
theorem at41:FnOk Tryz.prog 41 Tryz.f41:=⟨Tryz.func41,rfl,rfl,rfl,by kernel_rfl⟩
theorem at42:FnOk Tryz.prog 42 Tryz.f42:=⟨Tryz.func42,rfl,rfl,rfl,by kernel_rfl⟩
theorem at43:FnOk Tryz.prog 43 Tryz.f43:=⟨Tryz.func43,rfl,rfl,rfl,by kernel_rfl⟩
theorem at44:FnOk Tryz.prog 44 Tryz.f44:=⟨Tryz.func44,rfl,rfl,rfl,by kernel_rfl⟩
theorem at45:FnOk Tryz.prog 45 Tryz.f45:=⟨Tryz.func45,rfl,rfl,rfl,by kernel_rfl⟩
theorem at46:FnOk Tryz.prog 46 Tryz.f46:=⟨Tryz.func46,rfl,rfl,rfl,by kernel_rfl⟩
theorem at47:FnOk Tryz.prog 47 Tryz.f47:=⟨Tryz.func47,rfl,rfl,rfl,by kernel_rfl⟩
theorem at48:FnOk Tryz.prog 48 Tryz.f48:=⟨Tryz.func48,rfl,rfl,rfl,by kernel_rfl⟩
theorem at49:FnOk Tryz.prog 49 Tryz.f49:=⟨Tryz.func49,rfl,rfl,rfl,by kernel_rfl⟩
theorem at50:FnOk Tryz.prog 50 Tryz.f50:=⟨Tryz.func50,rfl,rfl,rfl,by kernel_rfl⟩
theorem at51:FnOk Tryz.prog 51 Tryz.f51:=⟨Tryz.func51,rfl,rfl,rfl,by kernel_rfl⟩
theorem at52:FnOk Tryz.prog 52 Tryz.f52:=⟨Tryz.func52,rfl,rfl,rfl,by kernel_rfl⟩
theorem at53:FnOk Tryz.prog 53 Tryz.f53:=⟨Tryz.func53,rfl,rfl,rfl,by kernel_rfl⟩
theorem at54:FnOk Tryz.prog 54 Tryz.f54:=⟨Tryz.func54,rfl,rfl,rfl,by kernel_rfl⟩
theorem at55:FnOk Tryz.prog 55 Tryz.f55:=⟨Tryz.func55,rfl,rfl,rfl,by kernel_rfl⟩
theorem at56:FnOk Tryz.prog 56 Tryz.f56:=⟨Tryz.func56,rfl,rfl,rfl,by kernel_rfl⟩
theorem at57:FnOk Tryz.prog 57 Tryz.f57:=⟨Tryz.func57,rfl,rfl,rfl,by kernel_rfl⟩
theorem at72:FnOk Tryz.prog 72 Tryz.f72:=⟨Tryz.func72,rfl,rfl,rfl,by kernel_rfl⟩
theorem at73:FnOk Tryz.prog 73 Tryz.f73:=⟨Tryz.func73,rfl,rfl,rfl,by kernel_rfl⟩
theorem at74:FnOk Tryz.prog 74 Tryz.f74:=⟨Tryz.func74,rfl,rfl,rfl,by kernel_rfl⟩
theorem at75:FnOk Tryz.prog 75 Tryz.f75:=⟨Tryz.func75,rfl,rfl,rfl,by kernel_rfl⟩
theorem at78:FnOk Tryz.prog 78 Tryz.f78:=⟨Tryz.func78,rfl,rfl,rfl,by kernel_rfl⟩
theorem at79:FnOk Tryz.prog 79 Tryz.f79:=⟨Tryz.func79,rfl,rfl,rfl,by kernel_rfl⟩
theorem at80:FnOk Tryz.prog 80 Tryz.f80:=⟨Tryz.func80,rfl,rfl,rfl,by kernel_rfl⟩
theorem at81:FnOk Tryz.prog 81 Tryz.f81:=⟨Tryz.func81,rfl,rfl,rfl,by kernel_rfl⟩
theorem at82:FnOk Tryz.prog 82 Tryz.f82:=⟨Tryz.func82,rfl,rfl,rfl,by kernel_rfl⟩
theorem at83:FnOk Tryz.prog 83 Tryz.f83:=⟨Tryz.func83,rfl,rfl,rfl,by kernel_rfl⟩
theorem at84:FnOk Tryz.prog 84 Tryz.f84:=⟨Tryz.func84,rfl,rfl,rfl,by kernel_rfl⟩
theorem at85:FnOk Tryz.prog 85 Tryz.f85:=⟨Tryz.func85,rfl,rfl,rfl,by kernel_rfl⟩
theorem at86:FnOk Tryz.prog 86 Tryz.f86:=⟨Tryz.func86,rfl,rfl,rfl,by kernel_rfl⟩
theorem at87:FnOk Tryz.prog 87 Tryz.f87:=⟨Tryz.func87,rfl,rfl,rfl,by kernel_rfl⟩
theorem at88:FnOk Tryz.prog 88 Tryz.f88:=⟨Tryz.func88,rfl,rfl,rfl,by kernel_rfl⟩
theorem at89:FnOk Tryz.prog 89 Tryz.f89:=⟨Tryz.func89,rfl,rfl,rfl,by kernel_rfl⟩
theorem at90:FnOk Tryz.prog 90 Tryz.f90:=⟨Tryz.func90,rfl,rfl,rfl,by kernel_rfl⟩
theorem at91:FnOk Tryz.prog 91 Tryz.f91:=⟨Tryz.func91,rfl,rfl,rfl,by kernel_rfl⟩
theorem at92:FnOk Tryz.prog 92 Tryz.f92:=⟨Tryz.func92,rfl,rfl,rfl,by kernel_rfl⟩
theorem at93:FnOk Tryz.prog 93 Tryz.f93:=⟨Tryz.func93,rfl,rfl,rfl,by kernel_rfl⟩
theorem at94:FnOk Tryz.prog 94 Tryz.f94:=⟨Tryz.func94,rfl,rfl,rfl,by kernel_rfl⟩
theorem at95:FnOk Tryz.prog 95 Tryz.f95:=⟨Tryz.func95,rfl,rfl,rfl,by kernel_rfl⟩
theorem at109:FnOk Tryz.prog 109 Tryz.f109:=⟨Tryz.func109,rfl,rfl,rfl,by kernel_rfl⟩
theorem at110:FnOk Tryz.prog 110 Tryz.f110:=⟨Tryz.func110,rfl,rfl,rfl,by kernel_rfl⟩
theorem at111:FnOk Tryz.prog 111 Tryz.f111:=⟨Tryz.func111,rfl,rfl,rfl,by kernel_rfl⟩
theorem at112:FnOk Tryz.prog 112 Tryz.f112:=⟨Tryz.func112,rfl,rfl,rfl,by kernel_rfl⟩
theorem at113:FnOk Tryz.prog 113 Tryz.f113:=⟨Tryz.func113,rfl,rfl,rfl,by kernel_rfl⟩
theorem at114:FnOk Tryz.prog 114 Tryz.f114:=⟨Tryz.func114,rfl,rfl,rfl,by kernel_rfl⟩
theorem at115:FnOk Tryz.prog 115 Tryz.f115:=⟨Tryz.func115,rfl,rfl,rfl,by kernel_rfl⟩
theorem at116:FnOk Tryz.prog 116 Tryz.f116:=⟨Tryz.func116,rfl,rfl,rfl,by kernel_rfl⟩
theorem at118:FnOk Tryz.prog 118 Tryz.f118:=⟨Tryz.func118,rfl,rfl,rfl,by kernel_rfl⟩
theorem at119:FnOk Tryz.prog 119 Tryz.f119:=⟨Tryz.func119,rfl,rfl,rfl,by kernel_rfl⟩
theorem at120:FnOk Tryz.prog 120 Tryz.f120:=⟨Tryz.func120,rfl,rfl,rfl,by kernel_rfl⟩
theorem at121:FnOk Tryz.prog 121 Tryz.f121:=⟨Tryz.func121,rfl,rfl,rfl,by kernel_rfl⟩
theorem at122:FnOk Tryz.prog 122 Tryz.f122:=⟨Tryz.func122,rfl,rfl,rfl,by kernel_rfl⟩
theorem at123:FnOk Tryz.prog 123 Tryz.f123:=⟨Tryz.func123,rfl,rfl,rfl,by kernel_rfl⟩
theorem at124:FnOk Tryz.prog 124 Tryz.f124:=⟨Tryz.func124,rfl,rfl,rfl,by kernel_rfl⟩
theorem at125:FnOk Tryz.prog 125 Tryz.f125:=⟨Tryz.func125,rfl,rfl,rfl,by kernel_rfl⟩
theorem at126:FnOk Tryz.prog 126 Tryz.f126:=⟨Tryz.func126,rfl,rfl,rfl,by kernel_rfl⟩
theorem at127:FnOk Tryz.prog 127 Tryz.f127:=⟨Tryz.func127,rfl,rfl,rfl,by kernel_rfl⟩
theorem at128:FnOk Tryz.prog 128 Tryz.f128:=⟨Tryz.func128,rfl,rfl,rfl,by kernel_rfl⟩
theorem at129:FnOk Tryz.prog 129 Tryz.f129:=⟨Tryz.func129,rfl,rfl,rfl,by kernel_rfl⟩
theorem at130:FnOk Tryz.prog 130 Tryz.f130:=⟨Tryz.func130,rfl,rfl,rfl,by kernel_rfl⟩
theorem at135:FnOk Tryz.prog 135 Tryz.f135:=⟨Tryz.func135,rfl,rfl,rfl,by kernel_rfl⟩
theorem at139:FnOk Tryz.prog 139 Tryz.f139:=⟨Tryz.func139,rfl,rfl,rfl,by kernel_rfl⟩
theorem at140:FnOk Tryz.prog 140 Tryz.f140:=⟨Tryz.func140,rfl,rfl,rfl,by kernel_rfl⟩
theorem at141:FnOk Tryz.prog 141 Tryz.f141:=⟨Tryz.func141,rfl,rfl,rfl,by kernel_rfl⟩
theorem at142:FnOk Tryz.prog 142 Tryz.f142:=⟨Tryz.func142,rfl,rfl,rfl,by kernel_rfl⟩
theorem at143:FnOk Tryz.prog 143 Tryz.f143:=⟨Tryz.func143,rfl,rfl,rfl,by kernel_rfl⟩
theorem at144:FnOk Tryz.prog 144 Tryz.f144:=⟨Tryz.func144,rfl,rfl,rfl,by kernel_rfl⟩
theorem at145:FnOk Tryz.prog 145 Tryz.f145:=⟨Tryz.func145,rfl,rfl,rfl,by kernel_rfl⟩
theorem at146:FnOk Tryz.prog 146 Tryz.f146:=⟨Tryz.func146,rfl,rfl,rfl,by kernel_rfl⟩
theorem at147:FnOk Tryz.prog 147 Tryz.f147:=⟨Tryz.func147,rfl,rfl,rfl,by kernel_rfl⟩
theorem at148:FnOk Tryz.prog 148 Tryz.f148:=⟨Tryz.func148,rfl,rfl,rfl,by kernel_rfl⟩
theorem at149:FnOk Tryz.prog 149 Tryz.f149:=⟨Tryz.func149,rfl,rfl,rfl,by kernel_rfl⟩
theorem at150:FnOk Tryz.prog 150 Tryz.f150:=⟨Tryz.func150,rfl,rfl,rfl,by kernel_rfl⟩
theorem at151:FnOk Tryz.prog 151 Tryz.f151:=⟨Tryz.func151,rfl,rfl,rfl,by kernel_rfl⟩
theorem at152:FnOk Tryz.prog 152 Tryz.f152:=⟨Tryz.func152,rfl,rfl,rfl,by kernel_rfl⟩
theorem at153:FnOk Tryz.prog 153 Tryz.f153:=⟨Tryz.func153,rfl,rfl,rfl,by kernel_rfl⟩
theorem at154:FnOk Tryz.prog 154 Tryz.f154:=⟨Tryz.func154,rfl,rfl,rfl,by kernel_rfl⟩
theorem at155:FnOk Tryz.prog 155 Tryz.f155:=⟨Tryz.func155,rfl,rfl,rfl,by kernel_rfl⟩
theorem at156:FnOk Tryz.prog 156 Tryz.f156:=⟨Tryz.func156,rfl,rfl,rfl,by kernel_rfl⟩
theorem at157:FnOk Tryz.prog 157 Tryz.f157:=⟨Tryz.func157,rfl,rfl,rfl,by kernel_rfl⟩
theorem at158:FnOk Tryz.prog 158 Tryz.f158:=⟨Tryz.func158,rfl,rfl,rfl,by kernel_rfl⟩
theorem at159:FnOk Tryz.prog 159 Tryz.f159:=⟨Tryz.func159,rfl,rfl,rfl,by kernel_rfl⟩
theorem at160:FnOk Tryz.prog 160 Tryz.f160:=⟨Tryz.func160,rfl,rfl,rfl,by kernel_rfl⟩
theorem at161:FnOk Tryz.prog 161 Tryz.f161:=⟨Tryz.func161,rfl,rfl,rfl,by kernel_rfl⟩
theorem at162:FnOk Tryz.prog 162 Tryz.f162:=⟨Tryz.func162,rfl,rfl,rfl,by kernel_rfl⟩
theorem at165:FnOk Tryz.prog 165 Tryz.f165:=⟨Tryz.func165,rfl,rfl,rfl,by kernel_rfl⟩
theorem at166:FnOk Tryz.prog 166 Tryz.f166:=⟨Tryz.func166,rfl,rfl,rfl,by kernel_rfl⟩
theorem at178:FnOk Tryz.prog 178 Tryz.f178:=⟨Tryz.func178,rfl,rfl,rfl,by kernel_rfl⟩
theorem at182:FnOk Tryz.prog 182 Tryz.f182:=⟨Tryz.func182,rfl,rfl,rfl,by kernel_rfl⟩
theorem at183:FnOk Tryz.prog 183 Tryz.f183:=⟨Tryz.func183,rfl,rfl,rfl,by kernel_rfl⟩
theorem at184:FnOk Tryz.prog 184 Tryz.f184:=⟨Tryz.func184,rfl,rfl,rfl,by kernel_rfl⟩
theorem at185:FnOk Tryz.prog 185 Tryz.f185:=⟨Tryz.func185,rfl,rfl,rfl,by kernel_rfl⟩
theorem at186:FnOk Tryz.prog 186 Tryz.f186:=⟨Tryz.func186,rfl,rfl,rfl,by kernel_rfl⟩
theorem at187:FnOk Tryz.prog 187 Tryz.f187:=⟨Tryz.func187,rfl,rfl,rfl,by kernel_rfl⟩
theorem at191:FnOk Tryz.prog 191 Tryz.f191:=⟨Tryz.func191,rfl,rfl,rfl,by kernel_rfl⟩
theorem at192:FnOk Tryz.prog 192 Tryz.f192:=⟨Tryz.func192,rfl,rfl,rfl,by kernel_rfl⟩
theorem at193:FnOk Tryz.prog 193 Tryz.f193:=⟨Tryz.func193,rfl,rfl,rfl,by kernel_rfl⟩
theorem at194:FnOk Tryz.prog 194 Tryz.f194:=⟨Tryz.func194,rfl,rfl,rfl,by kernel_rfl⟩
theorem at195:FnOk Tryz.prog 195 Tryz.f195:=⟨Tryz.func195,rfl,rfl,rfl,by kernel_rfl⟩
theorem at196:FnOk Tryz.prog 196 Tryz.f196:=⟨Tryz.func196,rfl,rfl,rfl,by kernel_rfl⟩
theorem at197:FnOk Tryz.prog 197 Tryz.f197:=⟨Tryz.func197,rfl,rfl,rfl,by kernel_rfl⟩
theorem at198:FnOk Tryz.prog 198 Tryz.f198:=⟨Tryz.func198,rfl,rfl,rfl,by kernel_rfl⟩
theorem at199:FnOk Tryz.prog 199 Tryz.f199:=⟨Tryz.func199,rfl,rfl,rfl,by kernel_rfl⟩
theorem at200:FnOk Tryz.prog 200 Tryz.f200:=⟨Tryz.func200,rfl,rfl,rfl,by kernel_rfl⟩
theorem at201:FnOk Tryz.prog 201 Tryz.f201:=⟨Tryz.func201,rfl,rfl,rfl,by kernel_rfl⟩
theorem at202:FnOk Tryz.prog 202 Tryz.f202:=⟨Tryz.func202,rfl,rfl,rfl,by kernel_rfl⟩
theorem at203:FnOk Tryz.prog 203 Tryz.f203:=⟨Tryz.func203,rfl,rfl,rfl,by kernel_rfl⟩
theorem at204:FnOk Tryz.prog 204 Tryz.f204:=⟨Tryz.func204,rfl,rfl,rfl,by kernel_rfl⟩
theorem at205:FnOk Tryz.prog 205 Tryz.f205:=⟨Tryz.func205,rfl,rfl,rfl,by kernel_rfl⟩
theorem at206:FnOk Tryz.prog 206 Tryz.f206:=⟨Tryz.func206,rfl,rfl,rfl,by kernel_rfl⟩
theorem at207:FnOk Tryz.prog 207 Tryz.f207:=⟨Tryz.func207,rfl,rfl,rfl,by kernel_rfl⟩
theorem at208:FnOk Tryz.prog 208 Tryz.f208:=⟨Tryz.func208,rfl,rfl,rfl,by kernel_rfl⟩
theorem at209:FnOk Tryz.prog 209 Tryz.f209:=⟨Tryz.func209,rfl,rfl,rfl,by kernel_rfl⟩
theorem at210:FnOk Tryz.prog 210 Tryz.f210:=⟨Tryz.func210,rfl,rfl,rfl,by kernel_rfl⟩
theorem at211:FnOk Tryz.prog 211 Tryz.f211:=⟨Tryz.func211,rfl,rfl,rfl,by kernel_rfl⟩
theorem at221:FnOk Tryz.prog 221 Tryz.f221:=⟨Tryz.func221,rfl,rfl,rfl,by kernel_rfl⟩
theorem at222:FnOk Tryz.prog 222 Tryz.f222:=⟨Tryz.func222,rfl,rfl,rfl,by kernel_rfl⟩
theorem at223:FnOk Tryz.prog 223 Tryz.f223:=⟨Tryz.func223,rfl,rfl,rfl,by kernel_rfl⟩
theorem at224:FnOk Tryz.prog 224 Tryz.f224:=⟨Tryz.func224,rfl,rfl,rfl,by kernel_rfl⟩
theorem at225:FnOk Tryz.prog 225 Tryz.f225:=⟨Tryz.func225,rfl,rfl,rfl,by kernel_rfl⟩
theorem at231:FnOk Tryz.prog 231 Tryz.f231:=⟨Tryz.func231,rfl,rfl,rfl,by kernel_rfl⟩
theorem at232:FnOk Tryz.prog 232 Tryz.f232:=⟨Tryz.func232,rfl,rfl,rfl,by kernel_rfl⟩
theorem at233:FnOk Tryz.prog 233 Tryz.f233:=⟨Tryz.func233,rfl,rfl,rfl,by kernel_rfl⟩
theorem at234:FnOk Tryz.prog 234 Tryz.f234:=⟨Tryz.func234,rfl,rfl,rfl,by kernel_rfl⟩
theorem at235:FnOk Tryz.prog 235 Tryz.f235:=⟨Tryz.func235,rfl,rfl,rfl,by kernel_rfl⟩
theorem at236:FnOk Tryz.prog 236 Tryz.f236:=⟨Tryz.func236,rfl,rfl,rfl,by kernel_rfl⟩
theorem at237:FnOk Tryz.prog 237 Tryz.f237:=⟨Tryz.func237,rfl,rfl,rfl,by kernel_rfl⟩
theorem at238:FnOk Tryz.prog 238 Tryz.f238:=⟨Tryz.func238,rfl,rfl,rfl,by kernel_rfl⟩
theorem at239:FnOk Tryz.prog 239 Tryz.f239:=⟨Tryz.func239,rfl,rfl,rfl,by kernel_rfl⟩
theorem at240:FnOk Tryz.prog 240 Tryz.f240:=⟨Tryz.func240,rfl,rfl,rfl,by kernel_rfl⟩
theorem at241:FnOk Tryz.prog 241 Tryz.f241:=⟨Tryz.func241,rfl,rfl,rfl,by kernel_rfl⟩
theorem at242:FnOk Tryz.prog 242 Tryz.f242:=⟨Tryz.func242,rfl,rfl,rfl,by kernel_rfl⟩
theorem at243:FnOk Tryz.prog 243 Tryz.f243:=⟨Tryz.func243,rfl,rfl,rfl,by kernel_rfl⟩
theorem at244:FnOk Tryz.prog 244 Tryz.f244:=⟨Tryz.func244,rfl,rfl,rfl,by kernel_rfl⟩
theorem at245:FnOk Tryz.prog 245 Tryz.f245:=⟨Tryz.func245,rfl,rfl,rfl,by kernel_rfl⟩
theorem at246:FnOk Tryz.prog 246 Tryz.f246:=⟨Tryz.func246,rfl,rfl,rfl,by kernel_rfl⟩
theorem at247:FnOk Tryz.prog 247 Tryz.f247:=⟨Tryz.func247,rfl,rfl,rfl,by kernel_rfl⟩
theorem at248:FnOk Tryz.prog 248 Tryz.f248:=⟨Tryz.func248,rfl,rfl,rfl,by kernel_rfl⟩
theorem at257:FnOk Tryz.prog 257 Tryz.f257:=⟨Tryz.func257,rfl,rfl,rfl,by kernel_rfl⟩
theorem at258:FnOk Tryz.prog 258 Tryz.f258:=⟨Tryz.func258,rfl,rfl,rfl,by kernel_rfl⟩
theorem at259:FnOk Tryz.prog 259 Tryz.f259:=⟨Tryz.func259,rfl,rfl,rfl,by kernel_rfl⟩
theorem at263:FnOk Tryz.prog 263 Tryz.f263:=⟨Tryz.func263,rfl,rfl,rfl,by kernel_rfl⟩
theorem at267:FnOk Tryz.prog 267 Tryz.f267:=⟨Tryz.func267,rfl,rfl,rfl,by kernel_rfl⟩
theorem at268:FnOk Tryz.prog 268 Tryz.f268:=⟨Tryz.func268,rfl,rfl,rfl,by kernel_rfl⟩
theorem at269:FnOk Tryz.prog 269 Tryz.f269:=⟨Tryz.func269,rfl,rfl,rfl,by kernel_rfl⟩
theorem at278:FnOk Tryz.prog 278 Tryz.f278:=⟨Tryz.func278,rfl,rfl,rfl,by kernel_rfl⟩
end Go.Proofs.YtekfkdddadcalaaGreatDoor
