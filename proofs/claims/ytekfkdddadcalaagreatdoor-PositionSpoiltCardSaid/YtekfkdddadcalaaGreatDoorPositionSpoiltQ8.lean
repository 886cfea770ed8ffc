/- The table of the types, printed by program. Where each funct; no condition. -/
import Derived.Test.YtekfkdddadcalaaGreatDoorProg
import Derived.Test.YtekfkdddadcalaaGreatDoorPositionSpoiltQ7
set_option maxRecDepth 100000
set_option maxHeartbeats 4000000
namespace Go.Proofs.YtekfkdddadcalaaGreatDoor
open Go Go.SX
def ti3:TI:={ row:=false,size:=1,zero:=#[.int .i64 0],kind:=4,ik:=.i64 }
def ti4:TI:={ row:=false,size:=1,zero:=#[.bool false],kind:=5 }
def ti5:TI:={ row:=false,size:=1,zero:=#[.int .u8 0],kind:=4,ik:=.u8 }
def ti7:TI:={ row:=true,size:=4,zero:=#[.int .i64 0,.int .i64 0,.bool false,.int .u8 0],kind:=1,fields:=[(0,2),(1,3),(2,4),(3,6)] }
def ti8:TI:={ row:=true,size:=4,zero:=#[.int .i64 0,.int .i64 0,.bool false,.int .u8 0],kind:=1,fields:=[(0,2),(1,3),(2,4),(3,6)] }
def ti9:TI:={ row:=false,size:=1,zero:=#[.string ByteArray.empty],kind:=0 }
def Mi:TI:={ row:=true,size:=2,zero:=#[.string ByteArray.empty,.int .u64 0],kind:=1,fields:=[(0,9),(1,12)] }
def Mh:TI:={ row:=true,size:=2,zero:=#[.string ByteArray.empty,.int .u64 0],kind:=1,fields:=[(0,9),(1,12)] }
def Mg:TI:={ row:=true,size:=1,zero:=#[.pointer none],kind:=1,fields:=[(0,17)] }
def Mf:TI:={ row:=true,size:=1,zero:=#[.pointer none],kind:=1,fields:=[(0,17)] }
def Me:TI:={ row:=true,size:=2,zero:=#[.slice none 0 0,.int .i64 0],kind:=1,fields:=[(0,22),(1,3)] }
def Ij:TI:={ row:=true,size:=2,zero:=#[.slice none 0 0,.int .i64 0],kind:=1,fields:=[(0,22),(1,3)] }
def Md:TI:={ row:=true,size:=10,zero:=#[.int .i64 0,.string ByteArray.empty,.int .i64 0,.int .i64 0,.string ByteArray.empty,.int .i64 0,.int .i64 0,.string ByteArray.empty,.int .i64 0,.bool false],kind:=1,fields:=[(0,3),(1,9),(2,3),(3,3),(4,9),(5,3),(6,3),(7,9),(8,3),(9,4)] }
def dE:TI:={ row:=true,size:=10,zero:=#[.int .i64 0,.string ByteArray.empty,.int .i64 0,.int .i64 0,.string ByteArray.empty,.int .i64 0,.int .i64 0,.string ByteArray.empty,.int .i64 0,.bool false],kind:=1,fields:=[(0,3),(1,9),(2,3),(3,3),(4,9),(5,3),(6,3),(7,9),(8,3),(9,4)] }
def Mc:TI:={ row:=false,size:=1,zero:=#[.slice none 0 0],kind:=3,elem:=49 }
def Mb:TI:={ row:=true,size:=3,zero:=#[.slice none 0 0,.slice none 0 0,.slice none 0 0],kind:=1,fields:=[(0,37),(1,38),(2,38)] }
def Ma:TI:={ row:=true,size:=3,zero:=#[.slice none 0 0,.slice none 0 0,.slice none 0 0],kind:=1,fields:=[(0,37),(1,38),(2,38)] }
def L9:TI:={ row:=true,size:=3,zero:=#[.string ByteArray.empty,.int .i64 0,.int .i64 0],kind:=1,fields:=[(0,9),(1,3),(2,3)] }
def ln:TI:={ row:=true,size:=3,zero:=#[.string ByteArray.empty,.int .i64 0,.int .i64 0],kind:=1,fields:=[(0,9),(1,3),(2,3)] }
def HY:TI:={ row:=false,size:=1,zero:=#[.int .u32 0],kind:=4,ik:=.u32 }
def GC:TI:={ row:=true,size:=32,zero:=(Array.replicate 32 (.int .u32 0)),kind:=2,len:=32,elem:=54 }
def L8:TI:={ row:=true,size:=33,zero:=#[.bool false,.int .u32 0,.int .u32 0,.int .u32 0,.int .u32 0,.int .u32 0,.int .u32 0,.int .u32 0,.int .u32 0,.int .u32 0,.int .u32 0,.int .u32 0,.int .u32 0,.int .u32 0,.int .u32 0,.int .u32 0,.int .u32 0,.int .u32 0,.int .u32 0,.int .u32 0,.int .u32 0,.int .u32 0,.int .u32 0,.int .u32 0,.int .u32 0,.int .u32 0,.int .u32 0,.int .u32 0,.int .u32 0,.int .u32 0,.int .u32 0,.int .u32 0,.int .u32 0],kind:=1,fields:=[(0,4),(1,55)] }
def eS:TI:={ row:=true,size:=33,zero:=#[.bool false,.int .u32 0,.int .u32 0,.int .u32 0,.int .u32 0,.int .u32 0,.int .u32 0,.int .u32 0,.int .u32 0,.int .u32 0,.int .u32 0,.int .u32 0,.int .u32 0,.int .u32 0,.int .u32 0,.int .u32 0,.int .u32 0,.int .u32 0,.int .u32 0,.int .u32 0,.int .u32 0,.int .u32 0,.int .u32 0,.int .u32 0,.int .u32 0,.int .u32 0,.int .u32 0,.int .u32 0,.int .u32 0,.int .u32 0,.int .u32 0,.int .u32 0,.int .u32 0],kind:=1,fields:=[(0,4),(1,55)] }
def L7:TI:={ row:=true,size:=66,zero:=#[.bool false,.int .u32 0,.int .u32 0,.int .u32 0,.int .u32 0,.int .u32 0,.int .u32 0,.int .u32 0,.int .u32 0,.int .u32 0,.int .u32 0,.int .u32 0,.int .u32 0,.int .u32 0,.int .u32 0,.int .u32 0,.int .u32 0,.int .u32 0,.int .u32 0,.int .u32 0,.int .u32 0,.int .u32 0,.int .u32 0,.int .u32 0,.int .u32 0,.int .u32 0,.int .u32 0,.int .u32 0,.int .u32 0,.int .u32 0,.int .u32 0,.int .u32 0,.int .u32 0,.bool false,.int .u32 0,.int .u32 0,.int .u32 0,.int .u32 0,.int .u32 0,.int .u32 0,.int .u32 0,.int .u32 0,.int .u32 0,.int .u32 0,.int .u32 0,.int .u32 0,.int .u32 0,.int .u32 0,.int .u32 0,.int .u32 0,.int .u32 0,.int .u32 0,.int .u32 0,.int .u32 0,.int .u32 0,.int .u32 0,.int .u32 0,.int .u32 0,.int .u32 0,.int .u32 0,.int .u32 0,.int .u32 0,.int .u32 0,.int .u32 0,.int .u32 0,.int .u32 0],kind:=1,fields:=[(0,57),(33,57)] }
def dH:TI:={ row:=true,size:=66,zero:=#[.bool false,.int .u32 0,.int .u32 0,.int .u32 0,.int .u32 0,.int .u32 0,.int .u32 0,.int .u32 0,.int .u32 0,.int .u32 0,.int .u32 0,.int .u32 0,.int .u32 0,.int .u32 0,.int .u32 0,.int .u32 0,.int .u32 0,.int .u32 0,.int .u32 0,.int .u32 0,.int .u32 0,.int .u32 0,.int .u32 0,.int .u32 0,.int .u32 0,.int .u32 0,.int .u32 0,.int .u32 0,.int .u32 0,.int .u32 0,.int .u32 0,.int .u32 0,.int .u32 0,.bool false,.int .u32 0,.int .u32 0,.int .u32 0,.int .u32 0,.int .u32 0,.int .u32 0,.int .u32 0,.int .u32 0,.int .u32 0,.int .u32 0,.int .u32 0,.int .u32 0,.int .u32 0,.int .u32 0,.int .u32 0,.int .u32 0,.int .u32 0,.int .u32 0,.int .u32 0,.int .u32 0,.int .u32 0,.int .u32 0,.int .u32 0,.int .u32 0,.int .u32 0,.int .u32 0,.int .u32 0,.int .u32 0,.int .u32 0,.int .u32 0,.int .u32 0,.int .u32 0],kind:=1,fields:=[(0,57),(33,57)] }
def L6:TI:={ row:=true,size:=76,zero:=#[.int .i64 0,.string ByteArray.empty,.string ByteArray.empty,.string ByteArray.empty,.int .i64 0,.int .i64 0,.int .i64 0,.bool false,.int .u32 0,.int .u32 0,.int .u32 0,.int .u32 0,.int .u32 0,.int .u32 0,.int .u32 0,.int .u32 0,.int .u32 0,.int .u32 0,.int .u32 0,.int .u32 0,.int .u32 0,.int .u32 0,.int .u32 0,.int .u32 0,.int .u32 0,.int .u32 0,.int .u32 0,.int .u32 0,.int .u32 0,.int .u32 0,.int .u32 0,.int .u32 0,.int .u32 0,.int .u32 0,.int .u32 0,.int .u32 0,.int .u32 0,.int .u32 0,.int .u32 0,.int .u32 0,.bool false,.int .u32 0,.int .u32 0,.int .u32 0,.int .u32 0,.int .u32 0,.int .u32 0,.int .u32 0,.int .u32 0,.int .u32 0,.int .u32 0,.int .u32 0,.int .u32 0,.int .u32 0,.int .u32 0,.int .u32 0,.int .u32 0,.int .u32 0,.int .u32 0,.int .u32 0,.int .u32 0,.int .u32 0,.int .u32 0,.int .u32 0,.int .u32 0,.int .u32 0,.int .u32 0,.int .u32 0,.int .u32 0,.int .u32 0,.int .u32 0,.int .u32 0,.int .u32 0,.string ByteArray.empty,.int .i64 0,.bool false],kind:=1,fields:=[(0,3),(1,9),(2,9),(3,9),(4,3),(5,3),(6,3),(7,59),(73,9),(74,3),(75,4)] }
def eQ:TI:={ row:=true,size:=76,zero:=#[.int .i64 0,.string ByteArray.empty,.string ByteArray.empty,.string ByteArray.empty,.int .i64 0,.int .i64 0,.int .i64 0,.bool false,.int .u32 0,.int .u32 0,.int .u32 0,.int .u32 0,.int .u32 0,.int .u32 0,.int .u32 0,.int .u32 0,.int .u32 0,.int .u32 0,.int .u32 0,.int .u32 0,.int .u32 0,.int .u32 0,.int .u32 0,.int .u32 0,.int .u32 0,.int .u32 0,.int .u32 0,.int .u32 0,.int .u32 0,.int .u32 0,.int .u32 0,.int .u32 0,.int .u32 0,.int .u32 0,.int .u32 0,.int .u32 0,.int .u32 0,.int .u32 0,.int .u32 0,.int .u32 0,.bool false,.int .u32 0,.int .u32 0,.int .u32 0,.int .u32 0,.int .u32 0,.int .u32 0,.int .u32 0,.int .u32 0,.int .u32 0,.int .u32 0,.int .u32 0,.int .u32 0,.int .u32 0,.int .u32 0,.int .u32 0,.int .u32 0,.int .u32 0,.int .u32 0,.int .u32 0,.int .u32 0,.int .u32 0,.int .u32 0,.int .u32 0,.int .u32 0,.int .u32 0,.int .u32 0,.int .u32 0,.int .u32 0,.int .u32 0,.int .u32 0,.int .u32 0,.int .u32 0,.string ByteArray.empty,.int .i64 0,.bool false],kind:=1,fields:=[(0,3),(1,9),(2,9),(3,9),(4,3),(5,3),(6,3),(7,59),(73,9),(74,3),(75,4)] }
def L5:TI:={ row:=true,size:=2,zero:=#[.string ByteArray.empty,.int .i64 0],kind:=1,fields:=[(0,9),(1,3)] }
def rW:TI:={ row:=true,size:=2,zero:=#[.string ByteArray.empty,.int .i64 0],kind:=1,fields:=[(0,9),(1,3)] }
def HX:TI:={ row:=false,size:=1,zero:=#[.nilFunc],kind:=0 }
def HW:TI:={ row:=false,size:=1,zero:=#[.slice none 0 0],kind:=3,elem:=136 }
def L4:TI:={ row:=true,size:=2,zero:=#[.nilFunc,.slice none 0 0],kind:=1,fields:=[(0,84),(1,85)] }
def LZ:TI:={ row:=true,size:=2,zero:=#[.nilFunc,.slice none 0 0],kind:=1,fields:=[(0,84),(1,85)] }
def HV:TI:={ row:=false,size:=1,zero:=#[.nilFunc],kind:=0 }
def HU:TI:={ row:=false,size:=1,zero:=#[.slice none 0 0],kind:=3,elem:=183 }
def LY:TI:={ row:=true,size:=2,zero:=#[.nilFunc,.slice none 0 0],kind:=1,fields:=[(0,88),(1,89)] }
def LW:TI:={ row:=true,size:=2,zero:=#[.nilFunc,.slice none 0 0],kind:=1,fields:=[(0,88),(1,89)] }
def LV:TI:={ row:=true,size:=7,zero:=#[.nilFunc,.slice none 0 0,.nilFunc,.slice none 0 0,.nilFunc,.slice none 0 0,.int .i64 0],kind:=1,fields:=[(0,87),(2,91),(4,91),(6,3)] }
def LU:TI:={ row:=true,size:=7,zero:=#[.nilFunc,.slice none 0 0,.nilFunc,.slice none 0 0,.nilFunc,.slice none 0 0,.int .i64 0],kind:=1,fields:=[(0,87),(2,91),(4,91),(6,3)] }
def Iv:TI:={ row:=true,size:=2,zero:=#[.string ByteArray.empty,.int .i64 0],kind:=1,fields:=[(0,9),(1,3)] }
def Bl:TI:={ row:=true,size:=2,zero:=#[.string ByteArray.empty,.int .i64 0],kind:=1,fields:=[(0,9),(1,3)] }
def Iu:TI:={ row:=true,size:=3,zero:=#[.string ByteArray.empty,.int .i64 0,.int .i64 0],kind:=1,fields:=[(0,9),(1,3),(2,3)] }
def eB:TI:={ row:=true,size:=3,zero:=#[.string ByteArray.empty,.int .i64 0,.int .i64 0],kind:=1,fields:=[(0,9),(1,3),(2,3)] }
def It:TI:={ row:=true,size:=2,zero:=#[.string ByteArray.empty,.int .i64 0],kind:=1,fields:=[(0,9),(1,3)] }
def fy:TI:={ row:=true,size:=2,zero:=#[.string ByteArray.empty,.int .i64 0],kind:=1,fields:=[(0,9),(1,3)] }
def Is:TI:={ row:=true,size:=3,zero:=#[.string ByteArray.empty,.int .i64 0,.bool false],kind:=1,fields:=[(0,9),(1,3),(2,4)] }
def nJ:TI:={ row:=true,size:=3,zero:=#[.string ByteArray.empty,.int .i64 0,.bool false],kind:=1,fields:=[(0,9),(1,3),(2,4)] }
def Ir:TI:={ row:=true,size:=76,zero:=#[.int .i64 0,.string ByteArray.empty,.string ByteArray.empty,.string ByteArray.empty,.int .i64 0,.int .i64 0,.int .i64 0,.bool false,.int .u32 0,.int .u32 0,.int .u32 0,.int .u32 0,.int .u32 0,.int .u32 0,.int .u32 0,.int .u32 0,.int .u32 0,.int .u32 0,.int .u32 0,.int .u32 0,.int .u32 0,.int .u32 0,.int .u32 0,.int .u32 0,.int .u32 0,.int .u32 0,.int .u32 0,.int .u32 0,.int .u32 0,.int .u32 0,.int .u32 0,.int .u32 0,.int .u32 0,.int .u32 0,.int .u32 0,.int .u32 0,.int .u32 0,.int .u32 0,.int .u32 0,.int .u32 0,.bool false,.int .u32 0,.int .u32 0,.int .u32 0,.int .u32 0,.int .u32 0,.int .u32 0,.int .u32 0,.int .u32 0,.int .u32 0,.int .u32 0,.int .u32 0,.int .u32 0,.int .u32 0,.int .u32 0,.int .u32 0,.int .u32 0,.int .u32 0,.int .u32 0,.int .u32 0,.int .u32 0,.int .u32 0,.int .u32 0,.int .u32 0,.int .u32 0,.int .u32 0,.int .u32 0,.int .u32 0,.int .u32 0,.int .u32 0,.int .u32 0,.int .u32 0,.int .u32 0,.string ByteArray.empty,.int .i64 0,.bool false],kind:=1,fields:=[(0,61)] }
def Bk:TI:={ row:=true,size:=76,zero:=#[.int .i64 0,.string ByteArray.empty,.string ByteArray.empty,.string ByteArray.empty,.int .i64 0,.int .i64 0,.int .i64 0,.bool false,.int .u32 0,.int .u32 0,.int .u32 0,.int .u32 0,.int .u32 0,.int .u32 0,.int .u32 0,.int .u32 0,.int .u32 0,.int .u32 0,.int .u32 0,.int .u32 0,.int .u32 0,.int .u32 0,.int .u32 0,.int .u32 0,.int .u32 0,.int .u32 0,.int .u32 0,.int .u32 0,.int .u32 0,.int .u32 0,.int .u32 0,.int .u32 0,.int .u32 0,.int .u32 0,.int .u32 0,.int .u32 0,.int .u32 0,.int .u32 0,.int .u32 0,.int .u32 0,.bool false,.int .u32 0,.int .u32 0,.int .u32 0,.int .u32 0,.int .u32 0,.int .u32 0,.int .u32 0,.int .u32 0,.int .u32 0,.int .u32 0,.int .u32 0,.int .u32 0,.int .u32 0,.int .u32 0,.int .u32 0,.int .u32 0,.int .u32 0,.int .u32 0,.int .u32 0,.int .u32 0,.int .u32 0,.int .u32 0,.int .u32 0,.int .u32 0,.int .u32 0,.int .u32 0,.int .u32 0,.int .u32 0,.int .u32 0,.int .u32 0,.int .u32 0,.int .u32 0,.string ByteArray.empty,.int .i64 0,.bool false],kind:=1,fields:=[(0,61)] }
def Iq:TI:={ row:=true,size:=76,zero:=#[.int .i64 0,.string ByteArray.empty,.string ByteArray.empty,.string ByteArray.empty,.int .i64 0,.int .i64 0,.int .i64 0,.bool false,.int .u32 0,.int .u32 0,.int .u32 0,.int .u32 0,.int .u32 0,.int .u32 0,.int .u32 0,.int .u32 0,.int .u32 0,.int .u32 0,.int .u32 0,.int .u32 0,.int .u32 0,.int .u32 0,.int .u32 0,.int .u32 0,.int .u32 0,.int .u32 0,.int .u32 0,.int .u32 0,.int .u32 0,.int .u32 0,.int .u32 0,.int .u32 0,.int .u32 0,.int .u32 0,.int .u32 0,.int .u32 0,.int .u32 0,.int .u32 0,.int .u32 0,.int .u32 0,.bool false,.int .u32 0,.int .u32 0,.int .u32 0,.int .u32 0,.int .u32 0,.int .u32 0,.int .u32 0,.int .u32 0,.int .u32 0,.int .u32 0,.int .u32 0,.int .u32 0,.int .u32 0,.int .u32 0,.int .u32 0,.int .u32 0,.int .u32 0,.int .u32 0,.int .u32 0,.int .u32 0,.int .u32 0,.int .u32 0,.int .u32 0,.int .u32 0,.int .u32 0,.int .u32 0,.int .u32 0,.int .u32 0,.int .u32 0,.int .u32 0,.int .u32 0,.int .u32 0,.string ByteArray.empty,.int .i64 0,.bool false],kind:=1,fields:=[(0,158)] }
def qF:TI:={ row:=true,size:=76,zero:=#[.int .i64 0,.string ByteArray.empty,.string ByteArray.empty,.string ByteArray.empty,.int .i64 0,.int .i64 0,.int .i64 0,.bool false,.int .u32 0,.int .u32 0,.int .u32 0,.int .u32 0,.int .u32 0,.int .u32 0,.int .u32 0,.int .u32 0,.int .u32 0,.int .u32 0,.int .u32 0,.int .u32 0,.int .u32 0,.int .u32 0,.int .u32 0,.int .u32 0,.int .u32 0,.int .u32 0,.int .u32 0,.int .u32 0,.int .u32 0,.int .u32 0,.int .u32 0,.int .u32 0,.int .u32 0,.int .u32 0,.int .u32 0,.int .u32 0,.int .u32 0,.int .u32 0,.int .u32 0,.int .u32 0,.bool false,.int .u32 0,.int .u32 0,.int .u32 0,.int .u32 0,.int .u32 0,.int .u32 0,.int .u32 0,.int .u32 0,.int .u32 0,.int .u32 0,.int .u32 0,.int .u32 0,.int .u32 0,.int .u32 0,.int .u32 0,.int .u32 0,.int .u32 0,.int .u32 0,.int .u32 0,.int .u32 0,.int .u32 0,.int .u32 0,.int .u32 0,.int .u32 0,.int .u32 0,.int .u32 0,.int .u32 0,.int .u32 0,.int .u32 0,.int .u32 0,.int .u32 0,.int .u32 0,.string ByteArray.empty,.int .i64 0,.bool false],kind:=1,fields:=[(0,158)] }
def Ip:TI:={ row:=true,size:=3,zero:=#[.string ByteArray.empty,.int .i64 0,.int .i64 0],kind:=1,fields:=[(0,108),(2,3)] }
def dI:TI:={ row:=true,size:=3,zero:=#[.string ByteArray.empty,.int .i64 0,.int .i64 0],kind:=1,fields:=[(0,108),(2,3)] }
def Io:TI:={ row:=true,size:=32,zero:=(Array.replicate 32 (.int .u32 0)),kind:=2,len:=32,elem:=54 }
def Im:TI:={ row:=true,size:=64,zero:=(Array.replicate 64 (.int .u32 0)),kind:=2,len:=64,elem:=54 }
def Il:TI:={ row:=true,size:=35,zero:=#[.bool false,.int .u32 0,.int .u32 0,.int .u32 0,.int .u32 0,.int .u32 0,.int .u32 0,.int .u32 0,.int .u32 0,.int .u32 0,.int .u32 0,.int .u32 0,.int .u32 0,.int .u32 0,.int .u32 0,.int .u32 0,.int .u32 0,.int .u32 0,.int .u32 0,.int .u32 0,.int .u32 0,.int .u32 0,.int .u32 0,.int .u32 0,.int .u32 0,.int .u32 0,.int .u32 0,.int .u32 0,.int .u32 0,.int .u32 0,.int .u32 0,.int .u32 0,.int .u32 0,.int .i64 0,.bool false],kind:=1,fields:=[(0,57),(33,3),(34,4)] }
def Ik:TI:={ row:=true,size:=35,zero:=#[.bool false,.int .u32 0,.int .u32 0,.int .u32 0,.int .u32 0,.int .u32 0,.int .u32 0,.int .u32 0,.int .u32 0,.int .u32 0,.int .u32 0,.int .u32 0,.int .u32 0,.int .u32 0,.int .u32 0,.int .u32 0,.int .u32 0,.int .u32 0,.int .u32 0,.int .u32 0,.int .u32 0,.int .u32 0,.int .u32 0,.int .u32 0,.int .u32 0,.int .u32 0,.int .u32 0,.int .u32 0,.int .u32 0,.int .u32 0,.int .u32 0,.int .u32 0,.int .u32 0,.int .i64 0,.bool false],kind:=1,fields:=[(0,57),(33,3),(34,4)] }
def Ii:TI:={ row:=true,size:=33,zero:=(Array.replicate 33 (.int .u32 0)),kind:=2,len:=33,elem:=54 }
def Ih:TI:={ row:=true,size:=256,zero:=(Array.replicate 256 (.bool false)),kind:=2,len:=256,elem:=4 }
def Ig:TI:={ row:=true,size:=256,zero:=(Array.replicate 256 (.bool false)),kind:=2,len:=256,elem:=4 }
def If:TI:={ row:=true,size:=2,zero:=#[.pointer none,.slice none 0 0],kind:=1,fields:=[(0,298),(1,64)] }
def Ie:TI:={ row:=true,size:=2,zero:=#[.pointer none,.slice none 0 0],kind:=1,fields:=[(0,298),(1,64)] }
def Id:TI:={ row:=true,size:=256,zero:=(Array.replicate 256 (.int .u8 0)),kind:=2,len:=256,elem:=5 }
def Ic:TI:={ row:=true,size:=2,zero:=#[.int .u8 0,.int .u8 0],kind:=1,fields:=[(0,5),(1,5)] }
def Ib:TI:={ row:=true,size:=2,zero:=#[.int .u8 0,.int .u8 0],kind:=1,fields:=[(0,5),(1,5)] }
def Ia:TI:={ row:=true,size:=32,zero:=(Array.replicate 32 (.int .u8 0)),kind:=2,len:=16,elem:=321 }
def H9:TI:={ row:=true,size:=4,zero:=#[.pointer none,.pointer none,.pointer none,.string ByteArray.empty],kind:=1,fields:=[(0,17),(1,17),(2,17),(3,9)] }
def H8:TI:={ row:=true,size:=4,zero:=#[.pointer none,.pointer none,.pointer none,.string ByteArray.empty],kind:=1,fields:=[(0,17),(1,17),(2,17),(3,9)] }
def H7:TI:={ row:=true,size:=0,zero:=#[],kind:=2,len:=0,elem:=16 }
def H6:TI:={ row:=true,size:=0,zero:=#[],kind:=1,fields:=[(0,326)] }
def H5:TI:={ row:=true,size:=0,zero:=#[],kind:=1,fields:=[(0,326)] }
def H4:TI:={ row:=true,size:=11,zero:=#[.int .u64 0,.int .u64 0,.int .u32 0,.int .u8 0,.int .u8 0,.int .u8 0,.int .u8 0,.nilFunc,.pointer none,.int .i32 0,.int .i32 0],kind:=1,fields:=[(0,12),(1,12),(2,54),(3,329),(4,5),(5,5),(6,330),(7,331),(8,312),(9,332),(10,333)] }
def H3:TI:={ row:=true,size:=11,zero:=#[.int .u64 0,.int .u64 0,.int .u32 0,.int .u8 0,.int .u8 0,.int .u8 0,.int .u8 0,.nilFunc,.pointer none,.int .i32 0,.int .i32 0],kind:=1,fields:=[(0,12),(1,12),(2,54),(3,329),(4,5),(5,5),(6,330),(7,331),(8,312),(9,332),(10,333)] }
def H0:TI:={ row:=true,size:=1,zero:=#[.string ByteArray.empty],kind:=1,fields:=[(0,9)] }
def HZ:TI:={ row:=true,size:=1,zero:=#[.string ByteArray.empty],kind:=1,fields:=[(0,9)] }
def LT:TypeId->Option TI
 | 1=>some (tV .nilFunc)
 | 2=>some (tI .i64)
 | 3=>some ti3
 | 4=>some ti4
 | 5=>some ti5
 | 6=>some (tI .u8)
 | 7=>some ti7
 | 8=>some ti8
 | 9=>some ti9
 | 10=>some (tV (.string ByteArray.empty))
 | 11=>some (tV (.string ByteArray.empty))
 | 12=>some (tI .u64)
 | 13=>some Mi
 | 14=>some Mh
 | 15=>some (tV (.pointer none))
 | 16=>some (tV (.pointer none))
 | _=>none
def LS:TypeId->Option TI
 | 17=>some (tV (.pointer none))
 | 18=>some Mg
 | 19=>some Mf
 | 20=>some (tV .nilIface)
 | 21=>some (tI .i32)
 | 22=>some (tS 3)
 | 23=>some (tV (.pointer none))
 | 24=>some Me
 | 25=>some Ij
 | 26=>some (tS 31)
 | 27=>some (tV .nilFunc)
 | 28=>some (tV .nilFunc)
 | 29=>some (tV (.pointer none))
 | 30=>some Md
 | 31=>some dE
 | 32=>some (tV .nilFunc)
 | _=>none
def LR:TypeId->Option TI
 | 33=>some (tV .nilFunc)
 | 34=>some (tV .nilFunc)
 | 35=>some (tV .nilFunc)
 | 36=>some (tV .nilFunc)
 | 37=>some (tS 66)
 | 38=>some Mc
 | 39=>some Mb
 | 40=>some Ma
 | 41=>some (tI .i64)
 | 43=>some (tV .nilFunc)
 | 45=>some (tV .nilFunc)
 | 46=>some (tS 9)
 | 47=>some (tV .nilFunc)
 | 48=>some L9
 | 49=>some ln
 | 50=>some (tV .nilFunc)
 | _=>none
def LP:TypeId->Option TI
 | 51=>some (tS 61)
 | 52=>some (tV .nilFunc)
 | 53=>some (tV .nilFunc)
 | 54=>some HY
 | 55=>some GC
 | 56=>some L8
 | 57=>some eS
 | 58=>some L7
 | 59=>some dH
 | 60=>some L6
 | 61=>some eQ
 | 62=>some (tV .nilFunc)
 | 63=>some (tV .nilFunc)
 | 64=>some (tS 5)
 | 65=>some L5
 | 66=>some rW
 | _=>none
def LO:TypeId->Option TI
 | 67=>some (tV .nilFunc)
 | 68=>some (tV .nilFunc)
 | 69=>some (tV .nilFunc)
 | 70=>some (tV .nilFunc)
 | 71=>some (tV .nilFunc)
 | 72=>some (tV .nilFunc)
 | 73=>some (tV .nilFunc)
 | 74=>some (tV .nilFunc)
 | 75=>some (tV .nilFunc)
 | 77=>some (tV .nilFunc)
 | 78=>some (tV .nilFunc)
 | 79=>some (tV .nilFunc)
 | 80=>some (tV .nilFunc)
 | 81=>some (tV .nilFunc)
 | 82=>some (tV .nilFunc)
 | 83=>some (tV (.pointer none))
 | _=>none
def LN:TypeId->Option TI
 | 84=>some HX
 | 85=>some HW
 | 86=>some L4
 | 87=>some LZ
 | 88=>some HV
 | 89=>some HU
 | 90=>some LY
 | 91=>some LW
 | 92=>some LV
 | 93=>some LU
 | 94=>some (tV .nilFunc)
 | 95=>some (tV .nilFunc)
 | 96=>some (tV .nilFunc)
 | 98=>some (tV .nilFunc)
 | 99=>some (tS 143)
 | 100=>some (tV .nilFunc)
 | _=>none
def LM:TypeId->Option TI
 | 101=>some (tV .nilFunc)
 | 102=>some (tV .nilFunc)
 | 103=>some (tV .nilFunc)
 | 104=>some (tV .nilFunc)
 | 105=>some (tV .nilFunc)
 | 106=>some (tS 38)
 | 107=>some Iv
 | 108=>some Bl
 | 109=>some (tV .nilFunc)
 | 110=>some (tV .nilFunc)
 | 111=>some (tV .nilFunc)
 | 112=>some (tV .nilFunc)
 | 113=>some (tV .nilFunc)
 | 114=>some (tV .nilFunc)
 | 115=>some (tV (.pointer none))
 | 116=>some (tV .nilFunc)
 | _=>none
def LL:TypeId->Option TI
 | 117=>some (tV .nilFunc)
 | 118=>some (tV .nilFunc)
 | 119=>some (tV .nilFunc)
 | 120=>some (tV .nilFunc)
 | 122=>some (tV .nilFunc)
 | 123=>some (tV .nilFunc)
 | 124=>some (tV .nilFunc)
 | 125=>some (tV .nilFunc)
 | 126=>some (tV .nilFunc)
 | 127=>some (tV .nilFunc)
 | 128=>some Iu
 | 129=>some eB
 | 131=>some (tV .nilFunc)
 | 132=>some (tV .nilFunc)
 | 133=>some (tV .nilFunc)
 | 134=>some (tV .nilFunc)
 | _=>none
def LK:TypeId->Option TI
 | 135=>some It
 | 136=>some fy
 | 138=>some (tV .nilFunc)
 | 139=>some (tV (.map none))
 | 140=>some (tV .nilFunc)
 | 141=>some (tV .nilFunc)
 | 142=>some Is
 | 143=>some nJ
 | 144=>some (tV .nilFunc)
 | 145=>some (tV .nilFunc)
 | 146=>some (tV .nilFunc)
 | 147=>some (tV .nilFunc)
 | 148=>some (tV .nilFunc)
 | 149=>some (tV .nilFunc)
 | 150=>some (tV .nilFunc)
 | 151=>some (tV .nilFunc)
 | _=>none
def LJ:TypeId->Option TI
 | 152=>some (tV .nilFunc)
 | 153=>some (tV .nilFunc)
 | 154=>some (tV .nilFunc)
 | 155=>some (tV .nilFunc)
 | 156=>some (tV .nilFunc)
 | 157=>some Ir
 | 158=>some Bk
 | 159=>some (tV .nilFunc)
 | 160=>some (tV .nilFunc)
 | 161=>some (tV .nilFunc)
 | 162=>some (tV .nilFunc)
 | 163=>some (tV (.pointer none))
 | 165=>some (tV .nilFunc)
 | 166=>some Iq
 | 167=>some qF
 | 169=>some (tV .nilFunc)
 | _=>none
def HP:TypeId->Option TI
 | 171=>some (tV .nilFunc)
 | 172=>some (tV .nilFunc)
 | 173=>some (tV .nilFunc)
 | 175=>some (tV .nilFunc)
 | 176=>some (tV .nilFunc)
 | 177=>some (tV .nilFunc)
 | 178=>some (tV .nilFunc)
 | 179=>some (tV (.pointer none))
 | 180=>some (tV .nilFunc)
 | 181=>some (tV .nilFunc)
 | 182=>some Ip
 | 183=>some dI
 | 184=>some (tV .nilFunc)
 | 185=>some (tV .nilFunc)
 | 186=>some (tV .nilFunc)
 | 187=>some (tI .u64)
 | _=>none
def HN:TypeId->Option TI
 | 188=>some (tV .nilFunc)
 | 190=>some (tV .nilFunc)
 | 192=>some (tV .nilFunc)
 | 193=>some (tV .nilFunc)
 | 194=>some (tV .nilFunc)
 | 195=>some (tV .nilFunc)
 | 196=>some (tI .u64)
 | 197=>some (tV .nilFunc)
 | 198=>some (tV .nilFunc)
 | 199=>some (tV .nilFunc)
 | 200=>some Io
 | 202=>some (tV .nilFunc)
 | 203=>some (tV .nilFunc)
 | 204=>some (tV .nilFunc)
 | 205=>some (tV .nilFunc)
 | 206=>some (tV .nilFunc)
 | _=>none
def HM:TypeId->Option TI
 | 207=>some (tV .nilFunc)
 | 208=>some (tV .nilFunc)
 | 209=>some (tV .nilFunc)
 | 210=>some (tV .nilFunc)
 | 211=>some (tV .nilFunc)
 | 212=>some (tV .nilFunc)
 | 213=>some (tV .nilFunc)
 | 214=>some (tI .i64)
 | 216=>some (tV .nilFunc)
 | 217=>some (tV .nilFunc)
 | 218=>some (tV .nilFunc)
 | 219=>some (tV .nilFunc)
 | 220=>some (tV .nilFunc)
 | 221=>some (tV .nilFunc)
 | 222=>some Im
 | 223=>some (tV .nilFunc)
 | _=>none
def HL:TypeId->Option TI
 | 224=>some (tV .nilFunc)
 | 225=>some (tV .nilFunc)
 | 227=>some (tV .nilFunc)
 | 228=>some (tV .nilFunc)
 | 230=>some (tV .nilFunc)
 | 232=>some (tV .nilFunc)
 | 233=>some (tV .nilFunc)
 | 234=>some (tV .nilFunc)
 | 235=>some (tV .nilFunc)
 | 237=>some (tV .nilFunc)
 | 238=>some (tV (.pointer none))
 | 240=>some (tV .nilFunc)
 | 241=>some (tV .nilFunc)
 | 242=>some (tV .nilFunc)
 | 244=>some (tV .nilFunc)
 | 245=>some (tV .nilFunc)
 | _=>none
def HK:TypeId->Option TI
 | 246=>some (tV .nilFunc)
 | 247=>some Il
 | 248=>some Ik
 | 249=>some (tV .nilFunc)
 | 250=>some (tI .u64)
 | 251=>some (tV .nilFunc)
 | 252=>some (tV .nilFunc)
 | 253=>some (tV .nilFunc)
 | 254=>some (tV (.pointer none))
 | 255=>some (tV .nilFunc)
 | 256=>some (tV .nilFunc)
 | 257=>some (tV .nilFunc)
 | 258=>some (tV .nilFunc)
 | 259=>some (tV .nilFunc)
 | 260=>some (tV .nilFunc)
 | 261=>some (tV .nilFunc)
 | _=>none
def HJ:TypeId->Option TI
 | 262=>some (tV .nilFunc)
 | 264=>some (tV .nilFunc)
 | 265=>some (tV .nilFunc)
 | 267=>some (tV .nilFunc)
 | 268=>some (tV .nilFunc)
 | 269=>some (tS 54)
 | 270=>some (tV .nilFunc)
 | 271=>some (tV .nilFunc)
 | 272=>some Ii
 | 274=>some (tV .nilFunc)
 | 275=>some (tV .nilFunc)
 | 276=>some (tV .nilFunc)
 | 277=>some (tV .nilFunc)
 | 278=>some (tV (.pointer none))
 | 280=>some (tV .nilFunc)
 | 282=>some (tV .nilFunc)
 | _=>none
def HI:TypeId->Option TI
 | 283=>some (tV .nilFunc)
 | 285=>some (tV .nilFunc)
 | 286=>some (tV .nilFunc)
 | 287=>some (tV .nilFunc)
 | 288=>some (tV .nilFunc)
 | 289=>some Ih
 | 290=>some Ig
 | 292=>some (tV .nilFunc)
 | 293=>some (tV .nilFunc)
 | 294=>some (tV (.pointer none))
 | 295=>some (tV .nilFunc)
 | 297=>some (tV .nilFunc)
 | 298=>some (tV (.pointer none))
 | 299=>some If
 | 300=>some Ie
 | 301=>some (tV .nilFunc)
 | _=>none
def HH:TypeId->Option TI
 | 302=>some (tV .nilIface)
 | 303=>some (tV .nilIface)
 | 305=>some (tV .nilFunc)
 | 307=>some (tV .nilFunc)
 | 308=>some (tV .nilFunc)
 | 309=>some (tV .nilFunc)
 | 311=>some (tV .nilFunc)
 | 312=>some (tV (.pointer none))
 | 313=>some (tV .nilFunc)
 | 315=>some (tV .nilFunc)
 | 316=>some (tV .nilFunc)
 | 317=>some (tV .nilFunc)
 | 318=>some (tV .nilFunc)
 | 319=>some Id
 | 320=>some Ic
 | 321=>some Ib
 | _=>none
def HG:TypeId->Option TI
 | 322=>some Ia
 | 323=>some (tV (.pointer none))
 | 324=>some H9
 | 325=>some H8
 | 326=>some H7
 | 327=>some H6
 | 328=>some H5
 | 329=>some (tI .u8)
 | 330=>some (tI .u8)
 | 331=>some (tV .nilFunc)
 | 332=>some (tI .i32)
 | 333=>some (tI .i32)
 | 334=>some H4
 | 335=>some H3
 | 336=>some (tV .nilFunc)
 | 337=>some H0
 | _=>none
def HF:TypeId->Option TI
 | 338=>some HZ
 | _=>none
def tt (ty:TypeId):Option TI :=
 if Nat.ble 339 ty then none else
 if Nat.ble ty 16 then LT ty else
 if Nat.ble ty 32 then LS ty else
 if Nat.ble ty 50 then LR ty else
 if Nat.ble ty 66 then LP ty else
 if Nat.ble ty 83 then LO ty else
 if Nat.ble ty 100 then LN ty else
 if Nat.ble ty 116 then LM ty else
 if Nat.ble ty 134 then LL ty else
 if Nat.ble ty 151 then LK ty else
 if Nat.ble ty 169 then LJ ty else
 if Nat.ble ty 187 then HP ty else
 if Nat.ble ty 206 then HN ty else
 if Nat.ble ty 223 then HM ty else
 if Nat.ble ty 245 then HL ty else
 if Nat.ble ty 261 then HK ty else
 if Nat.ble ty 282 then HJ ty else
 if Nat.ble ty 301 then HI ty else
 if Nat.ble ty 321 then HH ty else
 if Nat.ble ty 337 then HG ty else
 HF ty
theorem af:nG Tryz.prog tt:=HE 339 (fun _ h=>if_pos (Nat.ble_eq_true_of_le h)) (by kernel_rfl)
theorem ee:TIok Tryz.prog 3 ti3:=af 3 _ rfl
theorem zo:TIok Tryz.prog 4 ti4:=af 4 _ rfl
theorem jd:TIok Tryz.prog 9 ti9:=af 9 _ rfl
theorem HT:TIok Tryz.prog 54 HY:=af 54 _ rfl
theorem FP:TIok Tryz.prog 55 GC:=af 55 _ rfl
theorem tD:TIok Tryz.prog 57 eS:=af 57 _ rfl
theorem FN:TIok Tryz.prog 59 dH:=af 59 _ rfl
theorem Bi:TIok Tryz.prog 136 fy:=af 136 _ rfl
theorem Bh:TIok Tryz.prog 183 dI:=af 183 _ rfl
theorem ah:Tryz.prog.follows .mixedOrders=true:=by kernel_rfl
set_option maxRecDepth 100000
theorem at3:ap Tryz.prog 3 Tryz.f3:=⟨Tryz.func3,rfl,rfl,rfl,by kernel_rfl⟩
theorem NC:ap Tryz.prog 11 Tryz.f11:=⟨Tryz.func11,rfl,rfl,rfl,by kernel_rfl⟩
theorem Lh:ap Tryz.prog 12 Tryz.f12:=⟨Tryz.func12,rfl,rfl,rfl,by kernel_rfl⟩
theorem NB:ap Tryz.prog 13 Tryz.f13:=⟨Tryz.func13,rfl,rfl,rfl,by kernel_rfl⟩
theorem NA:ap Tryz.prog 14 Tryz.f14:=⟨Tryz.func14,rfl,rfl,rfl,by kernel_rfl⟩
theorem KN:ap Tryz.prog 15 Tryz.f15:=⟨Tryz.func15,rfl,rfl,rfl,by kernel_rfl⟩
theorem KB:ap Tryz.prog 16 Tryz.f16:=⟨Tryz.func16,rfl,rfl,rfl,by kernel_rfl⟩
theorem Ku:ap Tryz.prog 17 Tryz.f17:=⟨Tryz.func17,rfl,rfl,rfl,by kernel_rfl⟩
theorem Nz:ap Tryz.prog 18 Tryz.f18:=⟨Tryz.func18,rfl,rfl,rfl,by kernel_rfl⟩
theorem Ki:ap Tryz.prog 19 Tryz.f19:=⟨Tryz.func19,rfl,rfl,rfl,by kernel_rfl⟩
theorem AQ:ap Tryz.prog 21 Tryz.f21:=⟨Tryz.func21,rfl,rfl,rfl,by kernel_rfl⟩
theorem Ny:ap Tryz.prog 23 Tryz.f23:=⟨Tryz.func23,rfl,rfl,rfl,by kernel_rfl⟩
theorem Nx:ap Tryz.prog 24 Tryz.f24:=⟨Tryz.func24,rfl,rfl,rfl,by kernel_rfl⟩
theorem Nw:ap Tryz.prog 30 Tryz.f30:=⟨Tryz.func30,rfl,rfl,rfl,by kernel_rfl⟩
theorem Nv:ap Tryz.prog 31 Tryz.f31:=⟨Tryz.func31,rfl,rfl,rfl,by kernel_rfl⟩
theorem Nu:ap Tryz.prog 32 Tryz.f32:=⟨Tryz.func32,rfl,rfl,rfl,by kernel_rfl⟩
theorem Nt:ap Tryz.prog 33 Tryz.f33:=⟨Tryz.func33,rfl,rfl,rfl,by kernel_rfl⟩
theorem Ns:ap Tryz.prog 34 Tryz.f34:=⟨Tryz.func34,rfl,rfl,rfl,by kernel_rfl⟩
theorem Nr:ap Tryz.prog 35 Tryz.f35:=⟨Tryz.func35,rfl,rfl,rfl,by kernel_rfl⟩
theorem Nq:ap Tryz.prog 36 Tryz.f36:=⟨Tryz.func36,rfl,rfl,rfl,by kernel_rfl⟩
theorem Np:ap Tryz.prog 37 Tryz.f37:=⟨Tryz.func37,rfl,rfl,rfl,by kernel_rfl⟩
theorem No:ap Tryz.prog 38 Tryz.f38:=⟨Tryz.func38,rfl,rfl,rfl,by kernel_rfl⟩
theorem Nn:ap Tryz.prog 39 Tryz.f39:=⟨Tryz.func39,rfl,rfl,rfl,by kernel_rfl⟩
theorem Nm:ap Tryz.prog 40 Tryz.f40:=⟨Tryz.func40,rfl,rfl,rfl,by kernel_rfl⟩
theorem Nl:ap Tryz.prog 41 Tryz.f41:=⟨Tryz.func41,rfl,rfl,rfl,by kernel_rfl⟩
theorem Nk:ap Tryz.prog 42 Tryz.f42:=⟨Tryz.func42,rfl,rfl,rfl,by kernel_rfl⟩
theorem Nj:ap Tryz.prog 43 Tryz.f43:=⟨Tryz.func43,rfl,rfl,rfl,by kernel_rfl⟩
theorem Ni:ap Tryz.prog 44 Tryz.f44:=⟨Tryz.func44,rfl,rfl,rfl,by kernel_rfl⟩
theorem Nh:ap Tryz.prog 45 Tryz.f45:=⟨Tryz.func45,rfl,rfl,rfl,by kernel_rfl⟩
theorem Ng:ap Tryz.prog 46 Tryz.f46:=⟨Tryz.func46,rfl,rfl,rfl,by kernel_rfl⟩
theorem Nf:ap Tryz.prog 47 Tryz.f47:=⟨Tryz.func47,rfl,rfl,rfl,by kernel_rfl⟩
theorem Jb:ap Tryz.prog 48 Tryz.f48:=⟨Tryz.func48,rfl,rfl,rfl,by kernel_rfl⟩
theorem Nd:ap Tryz.prog 49 Tryz.f49:=⟨Tryz.func49,rfl,rfl,rfl,by kernel_rfl⟩
theorem Nc:ap Tryz.prog 50 Tryz.f50:=⟨Tryz.func50,rfl,rfl,rfl,by kernel_rfl⟩
theorem Nb:ap Tryz.prog 51 Tryz.f51:=⟨Tryz.func51,rfl,rfl,rfl,by kernel_rfl⟩
theorem Na:ap Tryz.prog 52 Tryz.f52:=⟨Tryz.func52,rfl,rfl,rfl,by kernel_rfl⟩
theorem M9:ap Tryz.prog 54 Tryz.f54:=⟨Tryz.func54,rfl,rfl,rfl,by kernel_rfl⟩
theorem M8:ap Tryz.prog 55 Tryz.f55:=⟨Tryz.func55,rfl,rfl,rfl,by kernel_rfl⟩
theorem M7:ap Tryz.prog 56 Tryz.f56:=⟨Tryz.func56,rfl,rfl,rfl,by kernel_rfl⟩
theorem M6:ap Tryz.prog 57 Tryz.f57:=⟨Tryz.func57,rfl,rfl,rfl,by kernel_rfl⟩
theorem M5:ap Tryz.prog 60 Tryz.f60:=⟨Tryz.func60,rfl,rfl,rfl,by kernel_rfl⟩
theorem Ja:ap Tryz.prog 63 Tryz.f63:=⟨Tryz.func63,rfl,rfl,rfl,by kernel_rfl⟩
theorem I9:ap Tryz.prog 64 Tryz.f64:=⟨Tryz.func64,rfl,rfl,rfl,by kernel_rfl⟩
theorem M4:ap Tryz.prog 65 Tryz.f65:=⟨Tryz.func65,rfl,rfl,rfl,by kernel_rfl⟩
theorem M3:ap Tryz.prog 66 Tryz.f66:=⟨Tryz.func66,rfl,rfl,rfl,by kernel_rfl⟩
theorem M0:ap Tryz.prog 67 Tryz.f67:=⟨Tryz.func67,rfl,rfl,rfl,by kernel_rfl⟩
theorem MZ:ap Tryz.prog 68 Tryz.f68:=⟨Tryz.func68,rfl,rfl,rfl,by kernel_rfl⟩
theorem MY:ap Tryz.prog 69 Tryz.f69:=⟨Tryz.func69,rfl,rfl,rfl,by kernel_rfl⟩
theorem MX:ap Tryz.prog 70 Tryz.f70:=⟨Tryz.func70,rfl,rfl,rfl,by kernel_rfl⟩
theorem MW:ap Tryz.prog 71 Tryz.f71:=⟨Tryz.func71,rfl,rfl,rfl,by kernel_rfl⟩
theorem MV:ap Tryz.prog 72 Tryz.f72:=⟨Tryz.func72,rfl,rfl,rfl,by kernel_rfl⟩
theorem MU:ap Tryz.prog 73 Tryz.f73:=⟨Tryz.func73,rfl,rfl,rfl,by kernel_rfl⟩
theorem MT:ap Tryz.prog 74 Tryz.f74:=⟨Tryz.func74,rfl,rfl,rfl,by kernel_rfl⟩
theorem I8:ap Tryz.prog 75 Tryz.f75:=⟨Tryz.func75,rfl,rfl,rfl,by kernel_rfl⟩
theorem MS:ap Tryz.prog 76 Tryz.f76:=⟨Tryz.func76,rfl,rfl,rfl,by kernel_rfl⟩
theorem I7:ap Tryz.prog 77 Tryz.f77:=⟨Tryz.func77,rfl,rfl,rfl,by kernel_rfl⟩
theorem MR:ap Tryz.prog 78 Tryz.f78:=⟨Tryz.func78,rfl,rfl,rfl,by kernel_rfl⟩
theorem MQ:ap Tryz.prog 79 Tryz.f79:=⟨Tryz.func79,rfl,rfl,rfl,by kernel_rfl⟩
theorem MP:ap Tryz.prog 80 Tryz.f80:=⟨Tryz.func80,rfl,rfl,rfl,by kernel_rfl⟩
theorem MO:ap Tryz.prog 81 Tryz.f81:=⟨Tryz.func81,rfl,rfl,rfl,by kernel_rfl⟩
theorem MN:ap Tryz.prog 82 Tryz.f82:=⟨Tryz.func82,rfl,rfl,rfl,by kernel_rfl⟩
theorem MM:ap Tryz.prog 83 Tryz.f83:=⟨Tryz.func83,rfl,rfl,rfl,by kernel_rfl⟩
theorem ML:ap Tryz.prog 84 Tryz.f84:=⟨Tryz.func84,rfl,rfl,rfl,by kernel_rfl⟩
theorem MJ:ap Tryz.prog 85 Tryz.f85:=⟨Tryz.func85,rfl,rfl,rfl,by kernel_rfl⟩
theorem MI:ap Tryz.prog 86 Tryz.f86:=⟨Tryz.func86,rfl,rfl,rfl,by kernel_rfl⟩
theorem MH:ap Tryz.prog 87 Tryz.f87:=⟨Tryz.func87,rfl,rfl,rfl,by kernel_rfl⟩
theorem MG:ap Tryz.prog 88 Tryz.f88:=⟨Tryz.func88,rfl,rfl,rfl,by kernel_rfl⟩
theorem I6:ap Tryz.prog 89 Tryz.f89:=⟨Tryz.func89,rfl,rfl,rfl,by kernel_rfl⟩
theorem MF:ap Tryz.prog 90 Tryz.f90:=⟨Tryz.func90,rfl,rfl,rfl,by kernel_rfl⟩
theorem ME:ap Tryz.prog 91 Tryz.f91:=⟨Tryz.func91,rfl,rfl,rfl,by kernel_rfl⟩
theorem MD:ap Tryz.prog 92 Tryz.f92:=⟨Tryz.func92,rfl,rfl,rfl,by kernel_rfl⟩
theorem MC:ap Tryz.prog 93 Tryz.f93:=⟨Tryz.func93,rfl,rfl,rfl,by kernel_rfl⟩
theorem MB:ap Tryz.prog 94 Tryz.f94:=⟨Tryz.func94,rfl,rfl,rfl,by kernel_rfl⟩
theorem MA:ap Tryz.prog 95 Tryz.f95:=⟨Tryz.func95,rfl,rfl,rfl,by kernel_rfl⟩
theorem Mz:ap Tryz.prog 97 Tryz.f97:=⟨Tryz.func97,rfl,rfl,rfl,by kernel_rfl⟩
theorem My:ap Tryz.prog 98 Tryz.f98:=⟨Tryz.func98,rfl,rfl,rfl,by kernel_rfl⟩
theorem Mx:ap Tryz.prog 99 Tryz.f99:=⟨Tryz.func99,rfl,rfl,rfl,by kernel_rfl⟩
theorem Lw:ap Tryz.prog 100 Tryz.f100:=⟨Tryz.func100,rfl,rfl,rfl,by kernel_rfl⟩
theorem Lv:ap Tryz.prog 101 Tryz.f101:=⟨Tryz.func101,rfl,rfl,rfl,by kernel_rfl⟩
theorem Lu:ap Tryz.prog 102 Tryz.f102:=⟨Tryz.func102,rfl,rfl,rfl,by kernel_rfl⟩
theorem Lt:ap Tryz.prog 103 Tryz.f103:=⟨Tryz.func103,rfl,rfl,rfl,by kernel_rfl⟩
theorem Ls:ap Tryz.prog 104 Tryz.f104:=⟨Tryz.func104,rfl,rfl,rfl,by kernel_rfl⟩
theorem Lr:ap Tryz.prog 105 Tryz.f105:=⟨Tryz.func105,rfl,rfl,rfl,by kernel_rfl⟩
theorem Gg:ap Tryz.prog 106 Tryz.f106:=⟨Tryz.func106,rfl,rfl,rfl,by kernel_rfl⟩
theorem Gf:ap Tryz.prog 107 Tryz.f107:=⟨Tryz.func107,rfl,rfl,rfl,by kernel_rfl⟩
theorem Ge:ap Tryz.prog 108 Tryz.f108:=⟨Tryz.func108,rfl,rfl,rfl,by kernel_rfl⟩
theorem Lq:ap Tryz.prog 109 Tryz.f109:=⟨Tryz.func109,rfl,rfl,rfl,by kernel_rfl⟩
theorem Lp:ap Tryz.prog 110 Tryz.f110:=⟨Tryz.func110,rfl,rfl,rfl,by kernel_rfl⟩
theorem Lo:ap Tryz.prog 111 Tryz.f111:=⟨Tryz.func111,rfl,rfl,rfl,by kernel_rfl⟩
theorem Ln:ap Tryz.prog 112 Tryz.f112:=⟨Tryz.func112,rfl,rfl,rfl,by kernel_rfl⟩
theorem Lm:ap Tryz.prog 113 Tryz.f113:=⟨Tryz.func113,rfl,rfl,rfl,by kernel_rfl⟩
theorem Ll:ap Tryz.prog 114 Tryz.f114:=⟨Tryz.func114,rfl,rfl,rfl,by kernel_rfl⟩
theorem Lk:ap Tryz.prog 115 Tryz.f115:=⟨Tryz.func115,rfl,rfl,rfl,by kernel_rfl⟩
theorem Lj:ap Tryz.prog 116 Tryz.f116:=⟨Tryz.func116,rfl,rfl,rfl,by kernel_rfl⟩
theorem Li:ap Tryz.prog 118 Tryz.f118:=⟨Tryz.func118,rfl,rfl,rfl,by kernel_rfl⟩
theorem DJ:ap Tryz.prog 119 Tryz.f119:=⟨Tryz.func119,rfl,rfl,rfl,by kernel_rfl⟩
theorem Lg:ap Tryz.prog 120 Tryz.f120:=⟨Tryz.func120,rfl,rfl,rfl,by kernel_rfl⟩
theorem Lf:ap Tryz.prog 121 Tryz.f121:=⟨Tryz.func121,rfl,rfl,rfl,by kernel_rfl⟩
theorem Le:ap Tryz.prog 122 Tryz.f122:=⟨Tryz.func122,rfl,rfl,rfl,by kernel_rfl⟩
theorem Ld:ap Tryz.prog 123 Tryz.f123:=⟨Tryz.func123,rfl,rfl,rfl,by kernel_rfl⟩
theorem Lc:ap Tryz.prog 124 Tryz.f124:=⟨Tryz.func124,rfl,rfl,rfl,by kernel_rfl⟩
theorem Lb:ap Tryz.prog 125 Tryz.f125:=⟨Tryz.func125,rfl,rfl,rfl,by kernel_rfl⟩
theorem La:ap Tryz.prog 126 Tryz.f126:=⟨Tryz.func126,rfl,rfl,rfl,by kernel_rfl⟩
theorem K9:ap Tryz.prog 127 Tryz.f127:=⟨Tryz.func127,rfl,rfl,rfl,by kernel_rfl⟩
theorem DI:ap Tryz.prog 128 Tryz.f128:=⟨Tryz.func128,rfl,rfl,rfl,by kernel_rfl⟩
theorem K8:ap Tryz.prog 129 Tryz.f129:=⟨Tryz.func129,rfl,rfl,rfl,by kernel_rfl⟩
theorem K7:ap Tryz.prog 130 Tryz.f130:=⟨Tryz.func130,rfl,rfl,rfl,by kernel_rfl⟩
theorem K6:ap Tryz.prog 133 Tryz.f133:=⟨Tryz.func133,rfl,rfl,rfl,by kernel_rfl⟩
theorem K5:ap Tryz.prog 134 Tryz.f134:=⟨Tryz.func134,rfl,rfl,rfl,by kernel_rfl⟩
theorem K4:ap Tryz.prog 135 Tryz.f135:=⟨Tryz.func135,rfl,rfl,rfl,by kernel_rfl⟩
theorem K3:ap Tryz.prog 136 Tryz.f136:=⟨Tryz.func136,rfl,rfl,rfl,by kernel_rfl⟩
theorem K0:ap Tryz.prog 137 Tryz.f137:=⟨Tryz.func137,rfl,rfl,rfl,by kernel_rfl⟩
theorem KZ:ap Tryz.prog 138 Tryz.f138:=⟨Tryz.func138,rfl,rfl,rfl,by kernel_rfl⟩
theorem KY:ap Tryz.prog 139 Tryz.f139:=⟨Tryz.func139,rfl,rfl,rfl,by kernel_rfl⟩
theorem KX:ap Tryz.prog 140 Tryz.f140:=⟨Tryz.func140,rfl,rfl,rfl,by kernel_rfl⟩
theorem KW:ap Tryz.prog 141 Tryz.f141:=⟨Tryz.func141,rfl,rfl,rfl,by kernel_rfl⟩
theorem KV:ap Tryz.prog 142 Tryz.f142:=⟨Tryz.func142,rfl,rfl,rfl,by kernel_rfl⟩
theorem KU:ap Tryz.prog 143 Tryz.f143:=⟨Tryz.func143,rfl,rfl,rfl,by kernel_rfl⟩
theorem KT:ap Tryz.prog 144 Tryz.f144:=⟨Tryz.func144,rfl,rfl,rfl,by kernel_rfl⟩
theorem KS:ap Tryz.prog 145 Tryz.f145:=⟨Tryz.func145,rfl,rfl,rfl,by kernel_rfl⟩
theorem KR:ap Tryz.prog 146 Tryz.f146:=⟨Tryz.func146,rfl,rfl,rfl,by kernel_rfl⟩
theorem KQ:ap Tryz.prog 147 Tryz.f147:=⟨Tryz.func147,rfl,rfl,rfl,by kernel_rfl⟩
theorem KP:ap Tryz.prog 148 Tryz.f148:=⟨Tryz.func148,rfl,rfl,rfl,by kernel_rfl⟩
theorem KO:ap Tryz.prog 149 Tryz.f149:=⟨Tryz.func149,rfl,rfl,rfl,by kernel_rfl⟩
theorem KM:ap Tryz.prog 150 Tryz.f150:=⟨Tryz.func150,rfl,rfl,rfl,by kernel_rfl⟩
theorem KL:ap Tryz.prog 151 Tryz.f151:=⟨Tryz.func151,rfl,rfl,rfl,by kernel_rfl⟩
theorem KJ:ap Tryz.prog 152 Tryz.f152:=⟨Tryz.func152,rfl,rfl,rfl,by kernel_rfl⟩
theorem KI:ap Tryz.prog 153 Tryz.f153:=⟨Tryz.func153,rfl,rfl,rfl,by kernel_rfl⟩
theorem KH:ap Tryz.prog 154 Tryz.f154:=⟨Tryz.func154,rfl,rfl,rfl,by kernel_rfl⟩
theorem KG:ap Tryz.prog 155 Tryz.f155:=⟨Tryz.func155,rfl,rfl,rfl,by kernel_rfl⟩
theorem KF:ap Tryz.prog 156 Tryz.f156:=⟨Tryz.func156,rfl,rfl,rfl,by kernel_rfl⟩
theorem KE:ap Tryz.prog 157 Tryz.f157:=⟨Tryz.func157,rfl,rfl,rfl,by kernel_rfl⟩
theorem KD:ap Tryz.prog 158 Tryz.f158:=⟨Tryz.func158,rfl,rfl,rfl,by kernel_rfl⟩
theorem KC:ap Tryz.prog 159 Tryz.f159:=⟨Tryz.func159,rfl,rfl,rfl,by kernel_rfl⟩
theorem KA:ap Tryz.prog 160 Tryz.f160:=⟨Tryz.func160,rfl,rfl,rfl,by kernel_rfl⟩
theorem Kz:ap Tryz.prog 161 Tryz.f161:=⟨Tryz.func161,rfl,rfl,rfl,by kernel_rfl⟩
theorem Kx:ap Tryz.prog 162 Tryz.f162:=⟨Tryz.func162,rfl,rfl,rfl,by kernel_rfl⟩
theorem Kw:ap Tryz.prog 165 Tryz.f165:=⟨Tryz.func165,rfl,rfl,rfl,by kernel_rfl⟩
theorem Kv:ap Tryz.prog 166 Tryz.f166:=⟨Tryz.func166,rfl,rfl,rfl,by kernel_rfl⟩
theorem Kt:ap Tryz.prog 178 Tryz.f178:=⟨Tryz.func178,rfl,rfl,rfl,by kernel_rfl⟩
theorem Ks:ap Tryz.prog 180 Tryz.f180:=⟨Tryz.func180,rfl,rfl,rfl,by kernel_rfl⟩
theorem Kr:ap Tryz.prog 181 Tryz.f181:=⟨Tryz.func181,rfl,rfl,rfl,by kernel_rfl⟩
theorem Kq:ap Tryz.prog 182 Tryz.f182:=⟨Tryz.func182,rfl,rfl,rfl,by kernel_rfl⟩
theorem Kp:ap Tryz.prog 183 Tryz.f183:=⟨Tryz.func183,rfl,rfl,rfl,by kernel_rfl⟩
theorem Ko:ap Tryz.prog 184 Tryz.f184:=⟨Tryz.func184,rfl,rfl,rfl,by kernel_rfl⟩
theorem Kn:ap Tryz.prog 185 Tryz.f185:=⟨Tryz.func185,rfl,rfl,rfl,by kernel_rfl⟩
theorem Km:ap Tryz.prog 186 Tryz.f186:=⟨Tryz.func186,rfl,rfl,rfl,by kernel_rfl⟩
theorem Kl:ap Tryz.prog 187 Tryz.f187:=⟨Tryz.func187,rfl,rfl,rfl,by kernel_rfl⟩
theorem Kk:ap Tryz.prog 188 Tryz.f188:=⟨Tryz.func188,rfl,rfl,rfl,by kernel_rfl⟩
theorem Kj:ap Tryz.prog 189 Tryz.f189:=⟨Tryz.func189,rfl,rfl,rfl,by kernel_rfl⟩
theorem Kh:ap Tryz.prog 190 Tryz.f190:=⟨Tryz.func190,rfl,rfl,rfl,by kernel_rfl⟩
theorem Kg:ap Tryz.prog 191 Tryz.f191:=⟨Tryz.func191,rfl,rfl,rfl,by kernel_rfl⟩
theorem Kf:ap Tryz.prog 192 Tryz.f192:=⟨Tryz.func192,rfl,rfl,rfl,by kernel_rfl⟩
theorem Ke:ap Tryz.prog 193 Tryz.f193:=⟨Tryz.func193,rfl,rfl,rfl,by kernel_rfl⟩
theorem Kd:ap Tryz.prog 194 Tryz.f194:=⟨Tryz.func194,rfl,rfl,rfl,by kernel_rfl⟩
theorem Kc:ap Tryz.prog 195 Tryz.f195:=⟨Tryz.func195,rfl,rfl,rfl,by kernel_rfl⟩
theorem Kb:ap Tryz.prog 196 Tryz.f196:=⟨Tryz.func196,rfl,rfl,rfl,by kernel_rfl⟩
theorem Ka:ap Tryz.prog 197 Tryz.f197:=⟨Tryz.func197,rfl,rfl,rfl,by kernel_rfl⟩
theorem J9:ap Tryz.prog 198 Tryz.f198:=⟨Tryz.func198,rfl,rfl,rfl,by kernel_rfl⟩
theorem J8:ap Tryz.prog 199 Tryz.f199:=⟨Tryz.func199,rfl,rfl,rfl,by kernel_rfl⟩
theorem J7:ap Tryz.prog 200 Tryz.f200:=⟨Tryz.func200,rfl,rfl,rfl,by kernel_rfl⟩
theorem J6:ap Tryz.prog 201 Tryz.f201:=⟨Tryz.func201,rfl,rfl,rfl,by kernel_rfl⟩
theorem J5:ap Tryz.prog 202 Tryz.f202:=⟨Tryz.func202,rfl,rfl,rfl,by kernel_rfl⟩
theorem J4:ap Tryz.prog 203 Tryz.f203:=⟨Tryz.func203,rfl,rfl,rfl,by kernel_rfl⟩
theorem J3:ap Tryz.prog 204 Tryz.f204:=⟨Tryz.func204,rfl,rfl,rfl,by kernel_rfl⟩
theorem J2:ap Tryz.prog 205 Tryz.f205:=⟨Tryz.func205,rfl,rfl,rfl,by kernel_rfl⟩
theorem J1:ap Tryz.prog 206 Tryz.f206:=⟨Tryz.func206,rfl,rfl,rfl,by kernel_rfl⟩
theorem J0:ap Tryz.prog 207 Tryz.f207:=⟨Tryz.func207,rfl,rfl,rfl,by kernel_rfl⟩
theorem JZ:ap Tryz.prog 208 Tryz.f208:=⟨Tryz.func208,rfl,rfl,rfl,by kernel_rfl⟩
theorem JY:ap Tryz.prog 209 Tryz.f209:=⟨Tryz.func209,rfl,rfl,rfl,by kernel_rfl⟩
theorem JX:ap Tryz.prog 210 Tryz.f210:=⟨Tryz.func210,rfl,rfl,rfl,by kernel_rfl⟩
theorem JW:ap Tryz.prog 211 Tryz.f211:=⟨Tryz.func211,rfl,rfl,rfl,by kernel_rfl⟩
theorem JV:ap Tryz.prog 219 Tryz.f219:=⟨Tryz.func219,rfl,rfl,rfl,by kernel_rfl⟩
theorem JU:ap Tryz.prog 220 Tryz.f220:=⟨Tryz.func220,rfl,rfl,rfl,by kernel_rfl⟩
theorem JT:ap Tryz.prog 221 Tryz.f221:=⟨Tryz.func221,rfl,rfl,rfl,by kernel_rfl⟩
theorem JS:ap Tryz.prog 222 Tryz.f222:=⟨Tryz.func222,rfl,rfl,rfl,by kernel_rfl⟩
theorem JR:ap Tryz.prog 223 Tryz.f223:=⟨Tryz.func223,rfl,rfl,rfl,by kernel_rfl⟩
theorem JQ:ap Tryz.prog 224 Tryz.f224:=⟨Tryz.func224,rfl,rfl,rfl,by kernel_rfl⟩
theorem JP:ap Tryz.prog 225 Tryz.f225:=⟨Tryz.func225,rfl,rfl,rfl,by kernel_rfl⟩
theorem JO:ap Tryz.prog 226 Tryz.f226:=⟨Tryz.func226,rfl,rfl,rfl,by kernel_rfl⟩
theorem JN:ap Tryz.prog 227 Tryz.f227:=⟨Tryz.func227,rfl,rfl,rfl,by kernel_rfl⟩
theorem JM:ap Tryz.prog 228 Tryz.f228:=⟨Tryz.func228,rfl,rfl,rfl,by kernel_rfl⟩
theorem JL:ap Tryz.prog 229 Tryz.f229:=⟨Tryz.func229,rfl,rfl,rfl,by kernel_rfl⟩
theorem JK:ap Tryz.prog 230 Tryz.f230:=⟨Tryz.func230,rfl,rfl,rfl,by kernel_rfl⟩
theorem JJ:ap Tryz.prog 231 Tryz.f231:=⟨Tryz.func231,rfl,rfl,rfl,by kernel_rfl⟩
theorem JI:ap Tryz.prog 232 Tryz.f232:=⟨Tryz.func232,rfl,rfl,rfl,by kernel_rfl⟩
theorem JH:ap Tryz.prog 233 Tryz.f233:=⟨Tryz.func233,rfl,rfl,rfl,by kernel_rfl⟩
theorem JG:ap Tryz.prog 234 Tryz.f234:=⟨Tryz.func234,rfl,rfl,rfl,by kernel_rfl⟩
theorem JF:ap Tryz.prog 235 Tryz.f235:=⟨Tryz.func235,rfl,rfl,rfl,by kernel_rfl⟩
theorem JE:ap Tryz.prog 236 Tryz.f236:=⟨Tryz.func236,rfl,rfl,rfl,by kernel_rfl⟩
theorem JD:ap Tryz.prog 237 Tryz.f237:=⟨Tryz.func237,rfl,rfl,rfl,by kernel_rfl⟩
theorem JC:ap Tryz.prog 238 Tryz.f238:=⟨Tryz.func238,rfl,rfl,rfl,by kernel_rfl⟩
theorem JB:ap Tryz.prog 239 Tryz.f239:=⟨Tryz.func239,rfl,rfl,rfl,by kernel_rfl⟩
theorem JA:ap Tryz.prog 240 Tryz.f240:=⟨Tryz.func240,rfl,rfl,rfl,by kernel_rfl⟩
theorem Jz:ap Tryz.prog 241 Tryz.f241:=⟨Tryz.func241,rfl,rfl,rfl,by kernel_rfl⟩
theorem Jy:ap Tryz.prog 242 Tryz.f242:=⟨Tryz.func242,rfl,rfl,rfl,by kernel_rfl⟩
theorem Jx:ap Tryz.prog 243 Tryz.f243:=⟨Tryz.func243,rfl,rfl,rfl,by kernel_rfl⟩
theorem Jw:ap Tryz.prog 244 Tryz.f244:=⟨Tryz.func244,rfl,rfl,rfl,by kernel_rfl⟩
theorem Jv:ap Tryz.prog 245 Tryz.f245:=⟨Tryz.func245,rfl,rfl,rfl,by kernel_rfl⟩
theorem Ju:ap Tryz.prog 246 Tryz.f246:=⟨Tryz.func246,rfl,rfl,rfl,by kernel_rfl⟩
theorem Jt:ap Tryz.prog 247 Tryz.f247:=⟨Tryz.func247,rfl,rfl,rfl,by kernel_rfl⟩
theorem Js:ap Tryz.prog 248 Tryz.f248:=⟨Tryz.func248,rfl,rfl,rfl,by kernel_rfl⟩
theorem Jr:ap Tryz.prog 252 Tryz.f252:=⟨Tryz.func252,rfl,rfl,rfl,by kernel_rfl⟩
theorem Jq:ap Tryz.prog 253 Tryz.f253:=⟨Tryz.func253,rfl,rfl,rfl,by kernel_rfl⟩
theorem Jp:ap Tryz.prog 254 Tryz.f254:=⟨Tryz.func254,rfl,rfl,rfl,by kernel_rfl⟩
theorem Jo:ap Tryz.prog 255 Tryz.f255:=⟨Tryz.func255,rfl,rfl,rfl,by kernel_rfl⟩
theorem Jn:ap Tryz.prog 256 Tryz.f256:=⟨Tryz.func256,rfl,rfl,rfl,by kernel_rfl⟩
theorem Jm:ap Tryz.prog 257 Tryz.f257:=⟨Tryz.func257,rfl,rfl,rfl,by kernel_rfl⟩
theorem Jl:ap Tryz.prog 258 Tryz.f258:=⟨Tryz.func258,rfl,rfl,rfl,by kernel_rfl⟩
theorem Jk:ap Tryz.prog 259 Tryz.f259:=⟨Tryz.func259,rfl,rfl,rfl,by kernel_rfl⟩
theorem Jj:ap Tryz.prog 263 Tryz.f263:=⟨Tryz.func263,rfl,rfl,rfl,by kernel_rfl⟩
theorem Ji:ap Tryz.prog 264 Tryz.f264:=⟨Tryz.func264,rfl,rfl,rfl,by kernel_rfl⟩
theorem Jh:ap Tryz.prog 265 Tryz.f265:=⟨Tryz.func265,rfl,rfl,rfl,by kernel_rfl⟩
theorem Jg:ap Tryz.prog 266 Tryz.f266:=⟨Tryz.func266,rfl,rfl,rfl,by kernel_rfl⟩
theorem Jf:ap Tryz.prog 267 Tryz.f267:=⟨Tryz.func267,rfl,rfl,rfl,by kernel_rfl⟩
theorem Je:ap Tryz.prog 268 Tryz.f268:=⟨Tryz.func268,rfl,rfl,rfl,by kernel_rfl⟩
theorem Jd:ap Tryz.prog 269 Tryz.f269:=⟨Tryz.func269,rfl,rfl,rfl,by kernel_rfl⟩
theorem Jc:ap Tryz.prog 278 Tryz.f278:=⟨Tryz.func278,rfl,rfl,rfl,by kernel_rfl⟩
end Go.Proofs.YtekfkdddadcalaaGreatDoor
